import Derived.Test.YtjojmfhgfeflnaaGreatDoorF0
import Derived.Test.YtjojmfhgfeflnaaGreatDoorLoops
import Derived.Test.YtjojmfhgfeflnaaGreatDoorTells
import Derived.Test.YtjojmfhgfeflnaaGreatDoorBytes
import Derived.Test.YtjojmfhgfeflnaaGreatDoorTwAll
/- Merged: TreeOkP TreeOkL TreeNodes AtP TreeRight SkipFits -/
section
/- The two looks at a tree agree. -/
namespace Go.Proofs.YtjojmfhgfeflnaaGreatDoor.QFnExactInner
open Go Go.RowKit Go.Proofs.YtjojmfhgfeflnaaGreatDoorV.PrintWords Go.Proofs.YtjojmfhgfeflnaaGreatDoorV.PrintLast Go.Proofs.YtjojmfhgfeflnaaGreatDoorV.PrintMore Go.Proofs.YtjojmfhgfeflnaaGreatDoor.Val Go.Proofs.YtjojmfhgfeflnaaGreatDoor.MapObj
set_option linter.unusedVariables false
set_option linter.unusedSimpArgs false

/-! ### attributes -/
/-- From place i on each attribute has a name that none ahead of it has. -/
def AttrsP (l : List S77) (i : Nat) : Prop := ∀ n, i ≤ n → n < l.length → (rd_T77 l n).f0.toList ≠ [] ∧ ∀ j, j < n → (rd_T77 l j).f0 ≠ (rd_T77 l n).f0
theorem AttrsP.step {l : List S77} {i : Nat} (hi : i < l.length) (h1 : (rd_T77 l i).f0.toList ≠ []) (h2 : ∀ j, j < i → (rd_T77 l j).f0 ≠ (rd_T77 l i).f0) : AttrsP l (i + 1) ↔ AttrsP l i := by
  constructor
  · intro h n hn hl
    by_cases e : n = i
    · subst e
      exact ⟨h1, h2⟩
    · exact h n (by omega) hl
  · intro h n hn hl
    exact h n (by omega) hl
theorem has_tells (l : List S77) (s : ByteArray) (hl : l.length ≤ 1048576) : ∀ (d i : Nat), i + d = l.length → Tells (spec_l2Has.L0 l s i) (∃ j, i ≤ j ∧ j < l.length ∧ (rd_T77 l j).f0 = s)
  | 0, i, h => by
    rw [spec_l2Has.L0_eq, if_neg (by omega)]
    exact Tells.no (fun ⟨j, h1, h2, _⟩ => by omega)
  | d + 1, i, h => by
    rw [spec_l2Has.L0_eq, if_pos (by omega), if_pos (by omega)]
    refine Tells.ite (fun e => ?_) (fun e => ?_)
    · exact Tells.yes ⟨i, Nat.le_refl _, by omega, toList_inj.1 e⟩
    · rw [w64 (by omega) (by omega)]
      refine (has_tells l s hl d (i + 1) (by omega)).congr ⟨fun ⟨j, h1, h2, h3⟩ => ⟨j, by omega, h2, h3⟩, fun ⟨j, h1, h2, h3⟩ => ⟨j, ?_, h2, h3⟩⟩
      by_cases c : j = i
      · subst c
        exact absurd (toList_inj.2 h3) e
      · omega
theorem rd_take (l : List S77) (i j : Nat) (h : j < i) (hi : i ≤ l.length) : rd_T77 (l.take i) j = rd_T77 l j := by
  unfold rd_T77
  rw [Int.toNat_natCast, List.getD_eq_getElem?_getD, List.getD_eq_getElem?_getD, List.getElem?_take, if_pos h]
theorem attrs_spec (a0 a1 : Int) (a2 : ByteArray) (l : List S77) (a4 : ByteArray) (a5 : Int) (hl : l.length ≤ 1048576) : ∀ (d i : Nat), i + d = l.length →
    Tells (spec_l3NodeOk.L0 i a0 a1 a2 l a4 a5) (AttrsP l i ∧ a2.toList ≠ [] ∧ a4.toList = [])
  | 0, i, h => by
    rw [spec_l3NodeOk.L0_eq, if_neg (by omega)]
    have hA : AttrsP l i := fun n h1 h2 => by omega
    refine Tells.ite (fun e => Tells.no (fun x => x.2.1 e)) (fun e => Tells.is ?_)
    simp [hA, e]
  | d + 1, i, h => by
    rw [spec_l3NodeOk.L0_eq, if_pos (by omega), if_pos (by omega)]
    refine Tells.ite (fun e => Tells.no (fun x => (x.1 i (Nat.le_refl _) (by omega)).1 e)) (fun e => ?_)
    rw [if_pos (by omega), Int.toNat_natCast, spec_l2Has.F_eq]
    have hk : (l.take i).length = i := by rw [List.length_take]; omega
    refine Tells.bind (has_tells (l.take i) _ (by omega) i 0 (by omega)) ?_ ?_
    · rintro ⟨j, _, h2, h3⟩
      rw [hk] at h2
      rw [rd_take l i j h2 (by omega)] at h3
      rw [if_pos rfl]
      exact Tells.no (fun x => (x.1 i (Nat.le_refl _) (by omega)).2 j h2 h3)
    · intro hn
      rw [if_neg (by simp), w64 (by omega) (by omega)]
      have h2 : ∀ j, j < i → (rd_T77 l j).f0 ≠ (rd_T77 l i).f0 := fun j hj c => hn ⟨j, Nat.zero_le _, by omega, by rw [rd_take l i j hj (by omega)]; exact c⟩
      exact (attrs_spec a0 a1 a2 l a4 a5 hl d (i + 1) (by omega)).congr (and_congr_left' (AttrsP.step (by omega) e h2))
theorem attrs_impl (l : List S77) (hl : l.length ≤ 1048576) : ∀ (d i : Nat) (seen : List ByteArray), i + d = l.length → (∀ s, s ∈ seen ↔ ∃ j, j < i ∧ (rd_T77 l j).f0 = s) →
    Tells (impl_attrsRight.L0 seen l l.length i) (AttrsP l i)
  | 0, i, seen, h, hs => by
    rw [impl_attrsRight.L0_eq, if_neg (by omega)]
    exact Tells.yes (fun n h1 h2 => by omega)
  | d + 1, i, seen, h, hs => by
    rw [impl_attrsRight.L0_eq, if_pos (by omega), if_pos (by omega), if_pos (by omega)]
    refine Tells.ite (fun e => Tells.no (fun x => (x i (Nat.le_refl _) (by omega)).1 e)) (fun e => ?_)
    refine Tells.ite (fun c => ?_) (fun c => ?_)
    · obtain ⟨j, hj, h3⟩ := (hs _).1 (smem_iff.1 c)
      exact Tells.no (fun x => (x i (Nat.le_refl _) (by omega)).2 j hj h3)
    · rw [if_pos (Nat.zero_le _), w64 (by omega) (by omega)]
      have hn : ¬ _ ∈ seen := fun m => c (smem_iff.2 m)
      have h2 : ∀ j, j < i → (rd_T77 l j).f0 ≠ (rd_T77 l i).f0 := fun j hj q => hn ((hs _).2 ⟨j, hj, q⟩)
      refine (attrs_impl l hl d (i + 1) _ (by omega) (fun s => ?_)).congr (AttrsP.step (by omega) e h2)
      rw [List.mem_cons, hs s]
      constructor
      · rintro (rfl | ⟨j, hj, q⟩)
        · exact ⟨i, by omega, rfl⟩
        · exact ⟨j, by omega, q⟩
      · rintro ⟨j, hj, q⟩
        by_cases c : j = i
        · subst c
          exact .inl q.symm
        · exact .inr ⟨j, by omega, q⟩

/-! ### a node -/
def NodeP (x : S57) (first : Bool) : Prop := 0 ≤ x.f0 ∧ x.f0 ≤ 1000000 ∧ (x.f1 = 1 ↔ first = true) ∧
  ((x.f1 = 1 ∧ x.f2.toList = [] ∧ x.f4.toList = [] ∧ x.f3.length = 0) ∨ (x.f1 = 2 ∧ x.f2.toList ≠ [] ∧ x.f4.toList = [] ∧ AttrsP x.f3 0) ∨ (x.f1 = 3 ∧ x.f2.toList = [] ∧ x.f4.toList ≠ [] ∧ x.f3.length = 0 ∧ x.f5 = 0) ∨
    (x.f1 = 4 ∧ x.f2.toList = [] ∧ x.f3.length = 0 ∧ x.f5 = 0) ∨ (x.f1 = 5 ∧ x.f4.toList = [] ∧ x.f3.length = 0 ∧ x.f5 = 0))
theorem flag_ne (k : Int) (first : Bool) : ((k == 1) != first) = false ↔ (k = 1 ↔ first = true) := by
  cases first <;> by_cases e : k = 1 <;> simp [e]
theorem node_spec (x : S57) (first : Bool) (hl : x.f3.length ≤ 1048576) : Tells (spec_l3NodeOk.F x.f0 x.f1 x.f2 x.f3 x.f4 x.f5 first) (NodeP x first) := by
  rw [spec_l3NodeOk.F_eq]
  refine Tells.ite (fun e => ?_) (fun e => Tells.ite (fun e2 => ?_) (fun e2 => ?_))
  · rw [spec_l3NodeOk.J0_eq, if_pos rfl]
    exact Tells.no (fun h => by have := h.1; omega)
  · rw [spec_l3NodeOk.J0_eq, if_pos rfl]
    exact Tells.no (fun h => by have := h.2.1; omega)
  · rw [spec_l3NodeOk.J0_eq]
    refine Tells.flag (fun c => Tells.no (fun h => ?_)) (fun c => ?_)
    · rw [(flag_ne _ _).2 h.2.2.1] at c
      cases c
    · have hk := (flag_ne _ _).1 c
      have h0 : 0 ≤ x.f0 := by omega
      have h1 : x.f0 ≤ 1000000 := by omega
      unfold NodeP
      by_cases k1 : x.f1 = 1
      · rw [if_pos k1]
        refine Tells.ite (fun n => Tells.ite (fun t => Tells.is ?_) (fun t => Tells.no ?_)) (fun n => Tells.no ?_)
        · have hft := hk.1 k1
          simp [h0, h1, k1, n, t, hft]
        · simp [k1, t]
        · simp [k1, n]
      · rw [if_neg k1]
        by_cases k2 : x.f1 = 2
        · rw [if_pos k2]
          refine (attrs_spec x.f0 x.f1 x.f2 x.f3 x.f4 x.f5 hl x.f3.length 0 (by omega)).congr ?_
          have hf : first = false := by cases first with | true => exact absurd (hk.2 rfl) k1 | false => rfl
          simp [h0, h1, hk, k2, hf]
          constructor
          · exact fun h => ⟨h.2.1, h.2.2, h.1⟩
          · exact fun h => ⟨h.2.2, h.1, h.2.1⟩
        · rw [if_neg k2]
          have hf : first = false := by cases first with | true => exact absurd (hk.2 rfl) k1 | false => rfl
          by_cases k3 : x.f1 = 3
          · rw [if_pos k3]
            refine Tells.ite (fun n => Tells.ite (fun t => Tells.no ?_) (fun t => Tells.ite (fun a => Tells.is ?_) (fun a => Tells.no ?_))) (fun n => Tells.no ?_)
            · simp [k3, t]
            · have a' : x.f3 = [] := List.eq_nil_of_length_eq_zero (by omega)
              simp [h0, h1, k3, hf, n, t, a']
            · have a' : ¬ x.f3 = [] := fun h => a (by rw [h]; rfl)
              simp [k3, a']
            · simp [k3, n]
          · rw [if_neg k3]
            by_cases k4 : x.f1 = 4
            · rw [if_pos k4]
              refine Tells.ite (fun n => Tells.ite (fun a => Tells.is ?_) (fun a => Tells.no ?_)) (fun n => Tells.no ?_)
              · have a' : x.f3 = [] := List.eq_nil_of_length_eq_zero (by omega)
                simp [h0, h1, k4, hf, n, a']
              · have a' : ¬ x.f3 = [] := fun h => a (by rw [h]; rfl)
                simp [k4, a']
              · simp [k4, n]
            · rw [if_neg k4]
              refine Tells.ite (fun k5 => Tells.ite (fun t => Tells.ite (fun a => Tells.is ?_) (fun a => Tells.no ?_)) (fun t => Tells.no ?_)) (fun k5 => Tells.no ?_)
              · have a' : x.f3 = [] := List.eq_nil_of_length_eq_zero (by omega)
                simp [h0, h1, k5, hf, t, a']
              · have a' : ¬ x.f3 = [] := fun h => a (by rw [h]; rfl)
                simp [k5, a']
              · simp [k5, t]
              · simp [k1, k2, k3, k4, k5]
theorem node_impl (x : S57) (first : Bool) (hl : x.f3.length ≤ 1048576) : Tells (impl_nodeRight.F x.f0 x.f1 x.f2 x.f3 x.f4 x.f5 first) (NodeP x first ∧ 0 ≤ x.f5) := by
  rw [impl_nodeRight.F_eq]
  refine Tells.ite (fun e => ?_) (fun e => Tells.ite (fun e2 => ?_) (fun e2 => Tells.ite (fun e3 => ?_) (fun e3 => ?_)))
  · rw [impl_nodeRight.J0_eq, if_pos rfl]
    exact Tells.no (fun h => by have := h.1.1; omega)
  · rw [impl_nodeRight.J0_eq, if_pos rfl]
    exact Tells.no (fun h => by have := h.1.2.1; omega)
  · rw [impl_nodeRight.J0_eq, if_pos rfl]
    exact Tells.no (fun h => by omega)
  · rw [impl_nodeRight.J0_eq]
    have hw : (first != (x.f1 == 1)) = ((x.f1 == 1) != first) := by cases first <;> cases (x.f1 == 1) <;> rfl
    rw [hw]
    have hK : 0 ≤ x.f5 := by omega
    have key : ∀ {o : Option Bool}, Tells o (NodeP x first) → Tells o (NodeP x first ∧ 0 ≤ x.f5) := fun h => h.congr ⟨fun a => ⟨a, hK⟩, fun a => a.1⟩
    apply key
    refine Tells.flag (fun c => Tells.no (fun h => ?_)) (fun c => ?_)
    · rw [(flag_ne _ _).2 h.2.2.1] at c
      cases c
    · have hk := (flag_ne _ _).1 c
      have h0 : 0 ≤ x.f0 := by omega
      have h1 : x.f0 ≤ 1000000 := by omega
      unfold NodeP
      by_cases k1 : x.f1 = 1
      · rw [if_pos k1]
        refine Tells.ite (fun n => Tells.ite (fun a => Tells.is ?_) (fun a => Tells.no ?_)) (fun n => Tells.no ?_)
        · have a' : x.f3 = [] := List.eq_nil_of_length_eq_zero (by omega)
          simp only [h0, h1, hk, k1, n, a']; simp
          exact fun _ => hk.1 k1
        · have a' : ¬ x.f3 = [] := fun h => a (by rw [h]; rfl)
          simp [k1, a']
        · simp [k1, n]
      · rw [if_neg k1]
        have hf : first = false := by cases first with | true => exact absurd (hk.2 rfl) k1 | false => rfl
        by_cases k2 : x.f1 = 2
        · rw [if_pos k2]
          refine Tells.ite (fun n => Tells.no ?_) (fun n => Tells.ite (fun t => ?_) (fun t => Tells.no ?_))
          · simp [k2, n]
          · rw [impl_attrsRight.F_eq]
            refine Tells.bind (attrs_impl x.f3 hl x.f3.length 0 [] (by omega) (fun s => by simp)) (fun q => Tells.yes ?_) (fun q => Tells.no ?_)
            · simp [h0, h1, k2, hf, n, t, q]
            · simp [k2, q]
          · simp [k2, t]
        · rw [if_neg k2]
          by_cases k3 : x.f1 = 3
          · rw [if_pos k3]
            refine Tells.ite (fun t => Tells.no ?_) (fun t => Tells.ite (fun n => Tells.ite (fun a => Tells.is ?_) (fun a => Tells.no ?_)) (fun n => Tells.no ?_))
            · simp [k3, t]
            · have a' : x.f3 = [] := List.eq_nil_of_length_eq_zero (by omega)
              simp [h0, h1, k3, hf, n, t, a']
            · have a' : ¬ x.f3 = [] := fun h => a (by rw [h]; rfl)
              simp [k3, a']
            · simp [k3, n]
          · rw [if_neg k3]
            by_cases k4 : x.f1 = 4
            · rw [if_pos k4]
              refine Tells.ite (fun n => Tells.ite (fun a => Tells.is ?_) (fun a => Tells.no ?_)) (fun n => Tells.no ?_)
              · have a' : x.f3 = [] := List.eq_nil_of_length_eq_zero (by omega)
                simp [h0, h1, k4, hf, n, a']
              · have a' : ¬ x.f3 = [] := fun h => a (by rw [h]; rfl)
                simp [k4, a']
              · simp [k4, n]
            · rw [if_neg k4]
              refine Tells.ite (fun k5 => Tells.ite (fun t => Tells.ite (fun a => Tells.is ?_) (fun a => Tells.no ?_)) (fun t => Tells.no ?_)) (fun k5 => Tells.no ?_)
              · have a' : x.f3 = [] := List.eq_nil_of_length_eq_zero (by omega)
                simp [h0, h1, k5, hf, t, a']
              · have a' : ¬ x.f3 = [] := fun h => a (by rw [h]; rfl)
                simp [k5, a']
              · simp [k5, t]
              · simp [k1, k2, k3, k4, k5]
end Go.Proofs.YtjojmfhgfeflnaaGreatDoor.QFnExactInner
end
section
/- The two looks at a tree agree: the loops. -/
namespace Go.Proofs.YtjojmfhgfeflnaaGreatDoor.QFnExactInner
open Go Go.RowKit Go.Proofs.YtjojmfhgfeflnaaGreatDoorV.PrintWords Go.Proofs.YtjojmfhgfeflnaaGreatDoorV.PrintLast Go.Proofs.YtjojmfhgfeflnaaGreatDoorV.PrintMore Go.Proofs.YtjojmfhgfeflnaaGreatDoor.Val Go.Proofs.YtjojmfhgfeflnaaGreatDoor.MapObj
set_option linter.unusedVariables false
set_option linter.unusedSimpArgs false

def popz : List Int → List Int
  | [] => []
  | a :: r => if a = 0 then popz r else a :: r
def stepz : List Int → Int → List Int
  | [], k => [k]
  | a :: r, k => k :: (a - 1) :: r
theorem popz_mem {x : Int} : ∀ {st : List Int}, x ∈ popz st → x ∈ st
  | [], h => h
  | a :: r, h => by
    unfold popz at h
    split at h
    · exact List.mem_cons_of_mem _ (popz_mem h)
    · exact h
theorem popz_len : ∀ st : List Int, (popz st).length ≤ st.length
  | [] => Nat.le_refl _
  | a :: r => by
    unfold popz
    split
    · have := popz_len r
      simp only [List.length_cons]
      omega
    · exact Nat.le_refl _
theorem popz_head : ∀ {st : List Int} {a : Int} {r : List Int}, popz st = a :: r → a ≠ 0
  | [], a, r, h => by cases h
  | b :: s, a, r, h => by
    unfold popz at h
    split at h
    · exact popz_head h
    · rename_i hb
      injection h with h1 _
      rw [← h1]
      exact hb
theorem popz_sum : ∀ st : List Int, (popz st).sum = st.sum
  | [] => rfl
  | a :: r => by
    unfold popz
    split
    · rename_i h
      rw [popz_sum r, List.sum_cons, h]
      omega
    · rfl
theorem sum_nonneg : ∀ {st : List Int}, (∀ x ∈ st, 0 ≤ x) → 0 ≤ st.sum
  | [], _ => Int.le_refl _
  | a :: r, h => by
    rw [List.sum_cons]
    have := h a List.mem_cons_self
    have := sum_nonneg (fun x hx => h x (List.mem_cons_of_mem _ hx))
    omega
theorem popz_nil {st : List Int} (h : ∀ x ∈ st, 0 ≤ x) : popz st = [] ↔ ¬ 0 < st.sum := by
  rw [← popz_sum st]
  cases e : popz st with
  | nil => simp
  | cons a r =>
    have h1 : a ≠ 0 := popz_head e
    have h2 : 0 ≤ a := h a (popz_mem (by rw [e]; exact List.mem_cons_self))
    have h3 : 0 ≤ r.sum := sum_nonneg (fun x hx => h x (popz_mem (by rw [e]; exact List.mem_cons_of_mem _ hx)))
    rw [List.sum_cons]
    simp
    omega
theorem zeros_sum {st : List Int} (h : ∀ x ∈ st, 0 ≤ x) : (∀ x ∈ st, x = 0) ↔ st.sum ≤ 0 := by
  induction st with
  | nil => simp
  | cons a r ih =>
    have h1 := h a List.mem_cons_self
    have h2 := sum_nonneg (fun x hx => h x (List.mem_cons_of_mem _ hx))
    have ih := ih (fun x hx => h x (List.mem_cons_of_mem _ hx))
    rw [List.sum_cons, List.forall_mem_cons, ih]
    omega
theorem step_nonneg {t : List Int} {k : Int} (h : ∀ x ∈ t, 0 ≤ x) (hh : ∀ a r, t = a :: r → a ≠ 0) (hk : 0 ≤ k) : ∀ x ∈ stepz t k, 0 ≤ x := by
  cases t with
  | nil => simpa [stepz] using hk
  | cons a r =>
    intro x hx
    have h1 := h a List.mem_cons_self
    have h2 := hh a r rfl
    simp only [stepz, List.mem_cons] at hx
    rcases hx with rfl | rfl | hx
    · exact hk
    · omega
    · exact h x (List.mem_cons_of_mem _ hx)
theorem step_sum {t : List Int} {k : Int} (hn : t ≠ []) : (stepz t k).sum = t.sum + k - 1 := by
  cases t with
  | nil => exact absurd rfl hn
  | cons a r =>
    simp only [stepz, List.sum_cons]
    omega

def IdsP (l : List S57) (i : Nat) : Prop := ∀ j, j < i → (rd_T57 l j).f0 ≠ (rd_T57 l i).f0
def ImplP (l : List S57) : Nat → Nat → List Int → Prop
  | 0, _, st => ∀ x ∈ st, x = 0
  | d + 1, i, st => (NodeP (rd_T57 l i) (i == 0) ∧ 0 ≤ (rd_T57 l i).f5) ∧ IdsP l i ∧ (0 < i → popz st ≠ []) ∧ (popz st).length ≤ 400 ∧ ImplP l d (i + 1) (stepz (popz st) (rd_T57 l i).f5)
def SpecP (l : List S57) : Nat → Nat → List Int → Prop
  | 0, _, _ => True
  | d + 1, i, t => NodeP (rd_T57 l i) (i == 0) ∧ t.length ≤ 400 ∧ IdsP l i ∧ SpecP l d (i + 1) (popz (stepz t (rd_T57 l i).f5))
def SkipP (l : List S57) : Nat → Nat → Int → Prop
  | 0, _, need => need ≤ 0
  | d + 1, i, need => 0 < need ∧ 0 ≤ (rd_T57 l i).f5 ∧ (rd_T57 l i).f5 ≤ l.length ∧ SkipP l d (i + 1) (need + (rd_T57 l i).f5 - 1)
theorem SkipP.le {l : List S57} : ∀ {d i : Nat} {need : Int}, SkipP l d i need → need ≤ d
  | 0, i, need, h => h
  | d + 1, i, need, h => by
    have := SkipP.le h.2.2.2
    have := h.2.1
    omega
theorem SkipP.kids {l : List S57} : ∀ {d i : Nat} {need : Int}, SkipP l d i need → ∀ j, i ≤ j → j < i + d → 0 ≤ (rd_T57 l j).f5 ∧ (rd_T57 l j).f5 ≤ l.length
  | 0, i, need, h, j, h1, h2 => by omega
  | d + 1, i, need, h, j, h1, h2 => by
    by_cases e : j = i
    · rw [e]
      exact ⟨h.2.1, h.2.2.1⟩
    · exact SkipP.kids h.2.2.2 j (by omega) (by omega)
theorem both_P (l : List S57) : ∀ (d i : Nat) (st : List Int), 0 < i → i + d = l.length → (∀ x ∈ st, 0 ≤ x) → (ImplP l d i st ↔ SkipP l d i st.sum ∧ SpecP l d i (popz st))
  | 0, i, st, hi, hd, h => by
    show (∀ x ∈ st, x = 0) ↔ st.sum ≤ 0 ∧ True
    rw [zeros_sum h]
    simp
  | d + 1, i, st, hi, hd, h => by
    show ((NodeP _ _ ∧ 0 ≤ _) ∧ IdsP l i ∧ (0 < i → popz st ≠ []) ∧ (popz st).length ≤ 400 ∧ ImplP l d (i + 1) _) ↔ (0 < st.sum ∧ 0 ≤ _ ∧ _ ∧ SkipP l d (i + 1) _) ∧ NodeP _ _ ∧ (popz st).length ≤ 400 ∧ IdsP l i ∧ SpecP l d (i + 1) _
    have hp : ∀ x ∈ popz st, 0 ≤ x := fun x hx => h x (popz_mem hx)
    have hn := popz_nil h
    constructor
    · rintro ⟨⟨a, b⟩, c, e, f, g⟩
      have ne := e hi
      have hs : 0 < st.sum := Decidable.byContradiction fun x => ne (hn.2 x)
      have g2 := (both_P l d (i + 1) _ (by omega) (by omega) (step_nonneg hp (fun _ _ => popz_head) b)).1 g
      rw [step_sum ne, popz_sum] at g2
      have := g2.1.le
      exact ⟨⟨hs, b, by omega, g2.1⟩, a, f, c, g2.2⟩
    · rintro ⟨⟨a, b, c, e⟩, f, g, k, m⟩
      have ne : popz st ≠ [] := fun x => hn.1 x a
      refine ⟨⟨f, b⟩, k, fun _ => ne, g, (both_P l d (i + 1) _ (by omega) (by omega) (step_nonneg hp (fun _ _ => popz_head) b)).2 ⟨?_, m⟩⟩
      rw [step_sum ne, popz_sum]
      exact e
theorem start_P (l : List S57) (d : Nat) (hl : l.length = d + 1) : ImplP l (d + 1) 0 [] ↔ SkipP l (d + 1) 0 1 ∧ SpecP l (d + 1) 0 [] := by
  show ((NodeP _ _ ∧ 0 ≤ _) ∧ IdsP l 0 ∧ (0 < 0 → popz [] ≠ []) ∧ (popz []).length ≤ 400 ∧ ImplP l d (0 + 1) (stepz (popz []) _)) ↔ (0 < (1 : Int) ∧ 0 ≤ _ ∧ _ ∧ SkipP l d (0 + 1) _) ∧ NodeP _ _ ∧ ([] : List Int).length ≤ 400 ∧ IdsP l 0 ∧ SpecP l d (0 + 1) _
  constructor
  · rintro ⟨⟨a, b⟩, c, e, f, g⟩
    have g2 := (both_P l d 1 _ (by omega) (by omega) (step_nonneg (t := popz []) (by simp [popz]) (by simp [popz]) b)).1 g
    have hs : (stepz (popz []) (rd_T57 l (0 : Nat)).f5).sum = 1 + (rd_T57 l (0 : Nat)).f5 - 1 := by simp [stepz, popz]; omega
    rw [hs] at g2
    have := g2.1.le
    exact ⟨⟨by omega, b, by omega, g2.1⟩, a, by simp, c, g2.2⟩
  · rintro ⟨⟨a, b, c, e⟩, f, g, k, m⟩
    refine ⟨⟨f, b⟩, k, fun x => by omega, by simp [popz], (both_P l d 1 _ (by omega) (by omega) (step_nonneg (t := popz []) (by simp [popz]) (by simp [popz]) b)).2 ⟨?_, m⟩⟩
    have hs : (stepz (popz []) (rd_T57 l (0 : Nat)).f5).sum = 1 + (rd_T57 l (0 : Nat)).f5 - 1 := by simp [stepz, popz]; omega
    rw [hs]
    exact e

/-! ### the stack, as the programs hold it: its top at the end -/
theorem top_len (a : Int) (r : List Int) : ((a :: r).reverse.length : Int) = r.length + 1 := by simp
theorem top_rd (a : Int) (r : List Int) : rd (a :: r).reverse (r.length : Int) = a := by
  unfold rd
  simp [List.getD_eq_getElem?_getD]
theorem top_take (a : Int) (r : List Int) : (a :: r).reverse.take ((r.length : Int)).toNat = r.reverse := by
  rw [Int.toNat_natCast, List.reverse_cons, List.take_append_of_le_length (by simp), List.take_of_length_le (by simp)]
theorem top_set (a v : Int) (r : List Int) : (a :: r).reverse.set ((r.length : Int)).toNat v = (v :: r).reverse := by
  rw [Int.toNat_natCast, List.reverse_cons, List.reverse_cons, List.set_append_right _ _ (by simp)]
  simp
theorem impl_pop (seen : List Int) (i : Int) (l : List S57) (n j a0 a1 : Int) (a2 : ByteArray) (a3 : List S77) (a4 : ByteArray) (a5 : Int) : ∀ st : List Int, st.length ≤ 1048576 →
    impl_TreeOk.L1 seen st.reverse i l n j a0 a1 a2 a3 a4 a5 = impl_TreeOk.J4 seen (popz st).reverse i l n j a0 a1 a2 a3 a4 a5
  | [], _ => by
    rw [impl_TreeOk.L1_eq, if_neg (by simp)]
    rfl
  | a :: r, h => by
    simp only [List.length_cons] at h
    rw [impl_TreeOk.L1_eq, top_len, if_pos (by omega), w64 (by omega) (by omega), show ((r.length : Int) + 1 - 1) = r.length by omega, if_pos (by omega), if_pos (by omega), top_rd]
    unfold popz
    by_cases e : a = 0
    · rw [if_pos e, if_pos (by omega), if_pos e, top_take, impl_pop seen i l n j a0 a1 a2 a3 a4 a5 r (by omega)]
    · rw [if_neg e, if_neg e]
theorem spec_pop (n i : Int) (l : List S57) : ∀ st : List Int, st.length ≤ 1048576 → spec_TreeOk.L2 n st.reverse i l = spec_TreeOk.L0 n (popz st).reverse (wrap64 (i + 1)) l
  | [], _ => by
    rw [spec_TreeOk.L2_eq, if_neg (by simp)]
    rfl
  | a :: r, h => by
    simp only [List.length_cons] at h
    rw [spec_TreeOk.L2_eq, top_len, if_pos (by omega), w64 (x := (r.length : Int) + 1 - 1) (by omega) (by omega), show ((r.length : Int) + 1 - 1) = r.length by omega, if_pos (by omega), if_pos (by omega), top_rd]
    unfold popz
    by_cases e : a = 0
    · rw [if_pos e, if_pos (by omega), if_pos e, top_take, spec_pop n i l r (by omega)]
    · rw [if_neg e, if_neg e]
theorem zeros_tell (x : List Int) (hx : x.length ≤ 1048576) : ∀ (d i : Nat), i + d = x.length → Tells (impl_TreeOk.L2 x x.length i) (∀ j, i ≤ j → j < x.length → rd x (j : Nat) = 0)
  | 0, i, h => by
    rw [impl_TreeOk.L2_eq, if_neg (by omega)]
    exact Tells.yes (fun j h1 h2 => by omega)
  | d + 1, i, h => by
    rw [impl_TreeOk.L2_eq, if_pos (by omega), if_pos (by omega), if_pos (by omega)]
    refine Tells.ite (fun e => ?_) (fun e => Tells.no (fun q => e (q i (Nat.le_refl _) (by omega))))
    rw [w64 (by omega) (by omega)]
    refine (zeros_tell x hx d (i + 1) (by omega)).congr ⟨fun q j h1 h2 => ?_, fun q j h1 h2 => q j (by omega) h2⟩
    by_cases c : j = i
    · rw [c]; exact e
    · exact q j (by omega) h2
theorem zeros_all (st : List Int) : (∀ j : Nat, 0 ≤ j → j < st.reverse.length → rd st.reverse (j : Nat) = 0) ↔ ∀ x ∈ st, x = 0 := by
  constructor
  · intro h x hx
    obtain ⟨j, hj, e⟩ := List.getElem_of_mem (List.mem_reverse.2 hx)
    have := h j (Nat.zero_le _) hj
    unfold rd at this
    rw [Int.toNat_natCast, List.getD_eq_getElem?_getD, List.getElem?_eq_getElem hj, e] at this
    exact this
  · intro h j _ hj
    unfold rd
    rw [Int.toNat_natCast, List.getD_eq_getElem?_getD, List.getElem?_eq_getElem hj]
    exact h _ (List.mem_reverse.1 (List.getElem_mem hj))

/-- What is asked of a tree's nodes: they are few, and their numbers are Go's. -/
structure Small (l : List S57) : Prop where
  len : l.length ≤ 1048576
  attrs : ∀ i : Nat, (rd_T57 l i).f3.length ≤ 1048576
  kids : ∀ i : Nat, (rd_T57 l i).f5 ≤ 9223372036854775807

theorem first_flag (i : Nat) : (((i : Nat) : Int) == 0) = (i == 0) := by
  cases i <;> simp
  omega
theorem impl_loop (l : List S57) (S : Small l) (h4 : l.length ≤ 4000) : ∀ (d i : Nat) (seen st : List Int), i + d = l.length → (∀ v, v ∈ seen ↔ ∃ j, j < i ∧ (rd_T57 l j).f0 = v) → (∀ x ∈ st, 0 ≤ x ∧ x ≤ 9223372036854775807) → st.length ≤ 402 →
    Tells (impl_TreeOk.L0 seen st.reverse l l.length i) (ImplP l d i st)
  | 0, i, seen, st, h, hs, hx, hc => by
    rw [impl_TreeOk.L0_eq, if_neg (by omega)]
    have hz := zeros_tell st.reverse (by rw [List.length_reverse]; omega) st.reverse.length 0 (by omega)
    exact hz.congr (zeros_all st)
  | d + 1, i, seen, st, h, hs, hx, hc => by
    rw [impl_TreeOk.L0_eq, if_pos (by omega), if_pos (by omega), if_pos (by omega), first_flag]
    refine Tells.bind (node_impl (rd_T57 l i) (i == 0) (S.attrs i)) (fun hN => ?_) (fun hN => ?_)
    · rw [if_pos rfl, impl_TreeOk.J2_eq]
      refine Tells.flag (fun c => Tells.no (fun q => ?_)) (fun c => ?_)
      · obtain ⟨j, hj, e⟩ := (hs _).1 (smem_iff.1 c)
        exact q.2.1 j hj e
      · have hI : IdsP l i := fun j hj e => by
          have := smem_iff.2 ((hs (rd_T57 l i).f0).2 ⟨j, hj, e⟩)
          rw [c] at this
          cases this
        rw [impl_pop _ _ _ _ _ _ _ _ _ _ _ st (by omega), impl_TreeOk.J4_eq]
        have hpl := popz_len st
        have hpm : ∀ x ∈ popz st, 0 ≤ x ∧ x ≤ 9223372036854775807 := fun x m => hx x (popz_mem m)
        have hph : ∀ a r, popz st = a :: r → a ≠ 0 := fun a r => popz_head
        have hP : ImplP l (d + 1) i st = ((NodeP (rd_T57 l i) (i == 0) ∧ 0 ≤ (rd_T57 l i).f5) ∧ IdsP l i ∧ (0 < i → popz st ≠ []) ∧ (popz st).length ≤ 400 ∧ ImplP l d (i + 1) (stepz (popz st) (rd_T57 l i).f5)) := rfl
        rw [hP]
        generalize popz st = t at hpl hpm hph
        have hk1 := hN.2
        have hk2 := S.kids i
        have hsn : ∀ v, v ∈ (rd_T57 l i).f0 :: seen ↔ ∃ j, j < i + 1 ∧ (rd_T57 l j).f0 = v := fun v => by
          rw [List.mem_cons, hs v]
          constructor
          · rintro (rfl | ⟨j, hj, q⟩)
            · exact ⟨i, by omega, rfl⟩
            · exact ⟨j, by omega, q⟩
          · rintro ⟨j, hj, q⟩
            by_cases c : j = i
            · subst c
              exact .inl q.symm
            · exact .inr ⟨j, by omega, q⟩
        have core : ∀ f : Bool, (f = true ↔ ¬ ((0 < i → t ≠ []) ∧ t.length ≤ 400)) → Tells (impl_TreeOk.J5 ((rd_T57 l i).f0 :: seen) t.reverse l l.length i f (rd_T57 l i).f0 (rd_T57 l i).f1 (rd_T57 l i).f2 (rd_T57 l i).f3 (rd_T57 l i).f4 (rd_T57 l i).f5)
            ((NodeP (rd_T57 l i) (i == 0) ∧ 0 ≤ (rd_T57 l i).f5) ∧ IdsP l i ∧ (0 < i → t ≠ []) ∧ t.length ≤ 400 ∧ ImplP l d (i + 1) (stepz t (rd_T57 l i).f5)) := by
          intro f hf
          rw [impl_TreeOk.J5_eq]
          refine Tells.flag (fun c => Tells.no (fun q => (hf.1 c) ⟨q.2.2.1, q.2.2.2.1⟩)) (fun c => ?_)
          have hg : (0 < i → t ≠ []) ∧ t.length ≤ 400 := Decidable.byContradiction fun x => by
            have := hf.2 x
            rw [c] at this
            cases this
          have fin : ∀ {o : Option Bool}, Tells o (ImplP l d (i + 1) (stepz t (rd_T57 l i).f5)) → Tells o ((NodeP (rd_T57 l i) (i == 0) ∧ 0 ≤ (rd_T57 l i).f5) ∧ IdsP l i ∧ (0 < i → t ≠ []) ∧ t.length ≤ 400 ∧ ImplP l d (i + 1) (stepz t (rd_T57 l i).f5)) :=
            fun h => h.congr ⟨fun x => ⟨hN, hI, hg.1, hg.2, x⟩, fun x => x.2.2.2.2⟩
          apply fin
          have hnn : ∀ x ∈ stepz t (rd_T57 l i).f5, 0 ≤ x ∧ x ≤ 9223372036854775807 := by
            intro x m
            refine ⟨step_nonneg (fun y hy => (hpm y hy).1) hph hk1 x m, ?_⟩
            cases t with
            | nil =>
              simp [stepz] at m
              omega
            | cons a r =>
              simp only [stepz, List.mem_cons] at m
              rcases m with rfl | rfl | m
              · exact hk2
              · have := (hpm a List.mem_cons_self).2
                omega
              · exact (hpm x (List.mem_cons_of_mem _ m)).2
          cases t with
          | nil =>
            rw [if_neg (by simp), if_pos (by simp), w64 (by omega) (by omega)]
            exact impl_loop l S h4 d (i + 1) _ [(rd_T57 l i).f5] (by omega) hsn hnn (by simp)
          | cons a r =>
            simp only [List.length_cons] at hg
            have ha := hpm a List.mem_cons_self
            have h0 := hph a r rfl
            rw [top_len, if_pos (by omega), w64 (x := (r.length : Int) + 1 - 1) (by omega) (by omega), show ((r.length : Int) + 1 - 1) = r.length by omega, if_pos (by omega), if_pos (by omega), top_rd, top_set, Option.bind_some, w64 (x := a - 1) (by omega) (by omega), if_pos (by simp; omega), w64 (by omega) (by omega)]
            have e : ((a - 1) :: r).reverse ++ [(rd_T57 l i).f5] = (stepz (a :: r) (rd_T57 l i).f5).reverse := by simp [stepz]
            rw [e]
            exact impl_loop l S h4 d (i + 1) _ _ (by omega) hsn hnn (by simp [stepz]; omega)
        have hle : decide ((t.reverse.length : Int) > 400) = true ↔ ¬ t.length ≤ 400 := by
          rw [decide_eq_true_iff, List.length_reverse]
          omega
        by_cases c : i = 0
        · rw [if_neg (by omega)]
          exact core _ (by rw [hle]; simp [c])
        · rw [if_pos (by omega)]
          refine Tells.ite (fun e => ?_) (fun e => ?_)
          · have : t = [] := List.eq_nil_of_length_eq_zero (by rw [List.length_reverse] at e; omega)
            exact core _ (by simp [this]; omega)
          · have ne : t ≠ [] := fun x => e (by rw [x]; rfl)
            exact core _ (by rw [hle]; simp [ne])
    · rw [if_neg (by simp), impl_TreeOk.J2_eq, if_pos rfl]
      exact Tells.no (fun q => hN q.1)
theorem impl_tells (l : List S57) (S : Small l) : Tells (impl_TreeOk.F l) (1 ≤ l.length ∧ l.length ≤ 4000 ∧ ImplP l l.length 0 []) := by
  rw [impl_TreeOk.F_eq]
  refine Tells.ite (fun e => ?_) (fun e => ?_)
  · rw [impl_TreeOk.J0_eq, if_pos rfl]
    exact Tells.no (fun q => by omega)
  · rw [impl_TreeOk.J0_eq]
    refine Tells.flag (fun c => Tells.no (fun q => ?_)) (fun c => ?_)
    · rw [decide_eq_true_iff] at c
      omega
    · rw [decide_eq_false_iff_not] at c
      have h4 : l.length ≤ 4000 := by omega
      exact (impl_loop l S h4 l.length 0 [] [] (by omega) (fun v => by simp) (by simp) (by simp)).congr ⟨fun x => ⟨by omega, h4, x⟩, fun x => x.2.2⟩

theorem skip_tells (l : List S57) (h4 : l.length ≤ 4000) : ∀ (d i : Nat) (need : Int), i + d = l.length → 0 ≤ need → need ≤ 1 + 4000 * (i : Int) → ∃ q, spec_l3Skip.L0 l i need = some q ∧ (q = l.length ↔ SkipP l d i need)
  | 0, i, need, h, h0, h1 => by
    rw [spec_l3Skip.L0_eq]
    by_cases c : need > 0
    · rw [if_pos c, if_pos (by omega)]
      refine ⟨-1, rfl, ?_⟩
      show _ ↔ need ≤ 0
      omega
    · rw [if_neg c]
      refine ⟨i, rfl, ?_⟩
      show _ ↔ need ≤ 0
      omega
  | d + 1, i, need, h, h0, h1 => by
    rw [spec_l3Skip.L0_eq]
    have hP : SkipP l (d + 1) i need = (0 < need ∧ 0 ≤ (rd_T57 l i).f5 ∧ (rd_T57 l i).f5 ≤ l.length ∧ SkipP l d (i + 1) (need + (rd_T57 l i).f5 - 1)) := rfl
    rw [hP]
    by_cases c : need > 0
    · rw [if_pos c, if_neg (by omega), if_pos (by omega), if_pos (by omega)]
      by_cases k0 : (rd_T57 l i).f5 < 0
      · rw [if_pos k0]
        exact ⟨-1, rfl, by omega⟩
      · rw [if_neg k0]
        by_cases k1 : (rd_T57 l i).f5 > l.length
        · rw [if_pos k1]
          exact ⟨-1, rfl, by omega⟩
        · rw [if_neg k1, w64 (x := (rd_T57 l i).f5 - 1) (by omega) (by omega), w64 (x := need + _) (by omega) (by omega), w64 (by omega) (by omega), show need + ((rd_T57 l i).f5 - 1) = need + (rd_T57 l i).f5 - 1 by omega]
          obtain ⟨q, e, hq⟩ := skip_tells l h4 d (i + 1) (need + (rd_T57 l i).f5 - 1) (by omega) (by omega) (by omega)
          refine ⟨q, e, hq.trans ?_⟩
          constructor
          · exact fun x => ⟨by omega, by omega, by omega, x⟩
          · exact fun x => x.2.2.2
    · rw [if_neg c]
      refine ⟨i, rfl, ?_⟩
      omega
theorem ids_tell (n : Int) (x4 : List Int) (i : Nat) (l : List S57) (hi : i < l.length) (hl : l.length ≤ 1048576) {p : Prop} (he : Tells (spec_TreeOk.L1 n x4 i i l) p) : ∀ (d k : Nat), k + d = i →
    Tells (spec_TreeOk.L1 n x4 i k l) ((∀ j, k ≤ j → j < i → (rd_T57 l j).f0 ≠ (rd_T57 l i).f0) ∧ p)
  | 0, k, h => by
    have : k = i := by omega
    subst this
    exact he.congr ⟨fun x => ⟨fun j h1 h2 => by omega, x⟩, fun x => x.2⟩
  | d + 1, k, h => by
    rw [spec_TreeOk.L1_eq, if_pos (by omega), if_pos (by omega), if_pos (by omega), if_pos (by omega), if_pos (by omega)]
    refine Tells.ite (fun e => Tells.no (fun q => q.1 k (Nat.le_refl _) (by omega) e)) (fun e => ?_)
    rw [w64 (by omega) (by omega)]
    refine (ids_tell n x4 i l hi hl he d (k + 1) (by omega)).congr ⟨fun q => ⟨fun j h1 h2 => ?_, q.2⟩, fun q => ⟨fun j h1 h2 => q.1 j (by omega) h2, q.2⟩⟩
    by_cases c : j = k
    · rw [c]; exact e
    · exact q.1 j (by omega) h2
theorem spec_loop (l : List S57) (S : Small l) (h4 : l.length ≤ 4000) (hk : ∀ j : Nat, j < l.length → 0 ≤ (rd_T57 l j).f5 ∧ (rd_T57 l j).f5 ≤ l.length) : ∀ (d i : Nat) (t : List Int), i + d = l.length → (∀ x ∈ t, 0 ≤ x ∧ x ≤ 4000) → (∀ a r, t = a :: r → a ≠ 0) → t.length ≤ 402 →
    Tells (spec_TreeOk.L0 l.length t.reverse i l) (SpecP l d i t)
  | 0, i, t, h, hx, hh, hc => by
    rw [spec_TreeOk.L0_eq, if_neg (by omega)]
    exact Tells.yes trivial
  | d + 1, i, t, h, hx, hh, hc => by
    rw [spec_TreeOk.L0_eq, if_pos (by omega), if_pos (by omega), if_pos (by omega), first_flag]
    have hP : SpecP l (d + 1) i t = (NodeP (rd_T57 l i) (i == 0) ∧ t.length ≤ 400 ∧ IdsP l i ∧ SpecP l d (i + 1) (popz (stepz t (rd_T57 l i).f5))) := rfl
    rw [hP]
    refine Tells.bind (node_spec (rd_T57 l i) (i == 0) (S.attrs i)) (fun hN => ?_) (fun hN => ?_)
    · rw [if_pos rfl, spec_TreeOk.J2_eq]
      refine Tells.flag (fun c => Tells.no (fun q => ?_)) (fun c => ?_)
      · rw [decide_eq_true_iff, List.length_reverse] at c
        omega
      · rw [decide_eq_false_iff_not, List.length_reverse] at c
        have hki := hk i (by omega)
        have hn : ∀ x ∈ popz (stepz t (rd_T57 l i).f5), 0 ≤ x ∧ x ≤ 4000 := by
          intro x m
          have m := popz_mem m
          refine ⟨step_nonneg (fun y hy => (hx y hy).1) hh hki.1 x m, ?_⟩
          cases t with
          | nil =>
            simp [stepz] at m
            omega
          | cons a r =>
            simp only [stepz, List.mem_cons] at m
            rcases m with rfl | rfl | m
            · omega
            · have := (hx a List.mem_cons_self).2
              omega
            · exact (hx x (List.mem_cons_of_mem _ m)).2
        have hlen : (popz (stepz t (rd_T57 l i).f5)).length ≤ 402 := by
          have := popz_len (stepz t (rd_T57 l i).f5)
          have : (stepz t (rd_T57 l i).f5).length = t.length + 1 := by cases t <;> rfl
          omega
        have ih := spec_loop l S h4 hk d (i + 1) (popz (stepz t (rd_T57 l i).f5)) (by omega) hn (fun a r => popz_head) hlen
        have he : Tells (spec_TreeOk.L1 l.length t.reverse i i l) (SpecP l d (i + 1) (popz (stepz t (rd_T57 l i).f5))) := by
          rw [spec_TreeOk.L1_eq, if_neg (by omega)]
          have go : ∀ u : List Int, u.length ≤ 402 → Tells (spec_TreeOk.L2 l.length (u ++ [(rd_T57 l i).f5]) i l) (SpecP l d (i + 1) (popz (stepz t (rd_T57 l i).f5))) → Tells (spec_TreeOk.J4 l.length u i l) (SpecP l d (i + 1) (popz (stepz t (rd_T57 l i).f5))) := by
            intro u hu h
            rw [spec_TreeOk.J4_eq, if_pos (by omega), if_pos (by omega), if_pos (by omega)]
            exact h
          cases t with
          | nil =>
            rw [if_neg (by simp)]
            refine go _ (by simp) ?_
            have := spec_pop l.length i l [(rd_T57 l i).f5] (by simp)
            rw [show ([] : List Int).reverse ++ [(rd_T57 l i).f5] = [(rd_T57 l i).f5].reverse from rfl, this, w64 (by omega) (by omega)]
            exact ih
          | cons a r =>
            simp only [List.length_cons] at c hc
            have ha := hx a List.mem_cons_self
            rw [top_len, if_pos (by omega), w64 (x := (r.length : Int) + 1 - 1) (by omega) (by omega), show ((r.length : Int) + 1 - 1) = r.length by omega, if_pos (by omega), if_pos (by omega), top_rd, top_set, w64 (x := a - 1) (by omega) (by omega)]
            refine go _ (by simp; omega) ?_
            have e : ((a - 1) :: r).reverse ++ [(rd_T57 l i).f5] = (stepz (a :: r) (rd_T57 l i).f5).reverse := by simp [stepz]
            have := spec_pop l.length i l (stepz (a :: r) (rd_T57 l i).f5) (by simp [stepz]; omega)
            rw [e, this, w64 (by omega) (by omega)]
            exact ih
        refine (ids_tell l.length t.reverse i l (by omega) S.len he i 0 (by omega)).congr ⟨fun q => ⟨hN, by omega, fun j hj => q.1 j (Nat.zero_le _) hj, q.2⟩, fun q => ⟨fun j _ hj => q.2.2.1 j hj, q.2.2.2⟩⟩
    · rw [if_neg (by simp), spec_TreeOk.J2_eq, if_pos rfl]
      exact Tells.no (fun q => hN q.1)
theorem spec_tells (l : List S57) (S : Small l) : Tells (spec_TreeOk.F l) (1 ≤ l.length ∧ l.length ≤ 4000 ∧ SkipP l l.length 0 1 ∧ SpecP l l.length 0 []) := by
  rw [spec_TreeOk.F_eq]
  refine Tells.ite (fun e => ?_) (fun e => Tells.ite (fun e2 => ?_) (fun e2 => ?_))
  · rw [spec_TreeOk.J0_eq, if_pos rfl]
    exact Tells.no (fun q => by omega)
  · rw [spec_TreeOk.J0_eq, if_pos rfl]
    exact Tells.no (fun q => by omega)
  · obtain ⟨q, hq, hs⟩ := skip_tells l (by omega) l.length 0 1 (by omega) (by omega) (by omega)
    rw [spec_l3Skip.F_eq]
    rw [show ((0 : Nat) : Int) = 0 from rfl] at hq
    rw [hq, Option.bind_some, spec_TreeOk.J0_eq]
    refine Tells.flag (fun c => Tells.no (fun x => ?_)) (fun c => ?_)
    · rw [bne_iff_ne] at c
      exact c (hs.2 x.2.2.1)
    · rw [bne_eq_false_iff_eq] at c
      have hS := hs.1 c
      have := spec_loop l S (by omega) (fun j hj => hS.kids j (Nat.zero_le _) (by omega)) l.length 0 [] (by omega) (by simp) (by simp) (by simp)
      exact this.congr ⟨fun x => ⟨by omega, by omega, hS, x⟩, fun x => x.2.2.2⟩
theorem tree_both (l : List S57) (S : Small l) : ∃ r, spec_TreeOk.F l = some r ∧ impl_TreeOk.F l = some r := by
  refine (spec_tells l S).same ((impl_tells l S).congr ?_)
  constructor
  · rintro ⟨h1, h2, h3⟩
    obtain ⟨d, hd⟩ : ∃ d, l.length = d + 1 := ⟨l.length - 1, by omega⟩
    rw [hd] at h3 ⊢
    have := (start_P l d hd).1 h3
    exact ⟨by omega, by omega, this.1, this.2⟩
  · rintro ⟨h1, h2, h3, h5⟩
    obtain ⟨d, hd⟩ : ∃ d, l.length = d + 1 := ⟨l.length - 1, by omega⟩
    rw [hd] at h3 h5 ⊢
    exact ⟨by omega, by omega, (start_P l d hd).2 ⟨h3, h5⟩⟩
end Go.Proofs.YtjojmfhgfeflnaaGreatDoor.QFnExactInner
end
section
/- A right tree's nodes are right. -/
namespace Go.Proofs.YtjojmfhgfeflnaaGreatDoor.QFnExactInner
open Go Go.RowKit Go.Proofs.YtjojmfhgfeflnaaGreatDoorV.PrintWords Go.Proofs.YtjojmfhgfeflnaaGreatDoorV.PrintLast Go.Proofs.YtjojmfhgfeflnaaGreatDoorV.PrintMore Go.Proofs.YtjojmfhgfeflnaaGreatDoor.Val
set_option linter.unusedVariables false
set_option linter.unusedSimpArgs false

theorem ImplP.nodes {l : List S57} : ∀ {d i : Nat} {st : List Int}, ImplP l d i st → ∀ j, i ≤ j → j < i + d → NodeP (rd_T57 l j) (j == 0)
  | 0, i, st, h, j, h1, h2 => by omega
  | d + 1, i, st, h, j, h1, h2 => by
    by_cases e : j = i
    · rw [e]
      exact h.1.1
    · exact ImplP.nodes h.2.2.2.2 j (by omega) (by omega)
/-- A right tree, or a wrong one: both looks say so, and a right tree's nodes are right. -/
theorem tree_is (l : List S57) (S : Small l) : ∃ r, spec_TreeOk.F l = some r ∧ impl_TreeOk.F l = some r ∧ (r = true → l.length ≤ 4000 ∧ ∀ j : Nat, j < l.length → NodeP (rd_T57 l j) (j == 0)) := by
  obtain ⟨r, h1, h2⟩ := tree_both l S
  obtain ⟨r', h3, h4⟩ := impl_tells l S
  have : r = r' := Option.some.inj (h2.symm.trans h3)
  subst this
  exact ⟨r, h1, h2, fun h => ⟨(h4.1 h).2.1, fun j hj => (h4.1 h).2.2.nodes j (Nat.zero_le _) (by omega)⟩⟩
theorem NodeP.attrs {x : S57} {f : Bool} (h : NodeP x f) (hk : ¬ x.f1 = 2) : x.f3 = [] := by
  have h := h.2.2.2
  apply List.eq_nil_of_length_eq_zero
  rcases h with h | h | h | h | h
  · exact h.2.2.2
  · exact absurd h.1 hk
  · exact h.2.2.2.1
  · exact h.2.2.1
  · exact h.2.2.1
end Go.Proofs.YtjojmfhgfeflnaaGreatDoor.QFnExactInner
end
section
/- Where the node with an Id stands. -/
namespace Go.Proofs.YtjojmfhgfeflnaaGreatDoor.QFnExactInner
open Go Go.RowKit Go.Proofs.YtjojmfhgfeflnaaGreatDoorV.PrintWords Go.Proofs.YtjojmfhgfeflnaaGreatDoorV.PrintLast Go.Proofs.YtjojmfhgfeflnaaGreatDoorV.PrintMore Go.Proofs.YtjojmfhgfeflnaaGreatDoor.TreeIx
set_option linter.unusedVariables false
set_option linter.unusedSimpArgs false

/-- Where the node with an Id stands. -/
def at_ (l : List S57) (id : Int) : Nat → Option Nat
  | 0 => none
  | k + 1 => if (rd_T57 l (k : Nat)).f0 = id then some k else at_ l id k
def atI (l : List S57) (id : Int) : Option Nat := at_ l id l.length
theorem at__lt {l : List S57} {id : Int} : ∀ {k j : Nat}, at_ l id k = some j → j < k ∧ (rd_T57 l (j : Nat)).f0 = id
  | 0, j, h => by cases h
  | k + 1, j, h => by
    unfold at_ at h
    split at h
    · rename_i e
      injection h with h
      subst h
      exact ⟨by omega, e⟩
    · have := at__lt h
      exact ⟨by omega, this.2⟩
end Go.Proofs.YtjojmfhgfeflnaaGreatDoor.QFnExactInner
end
section
/- A tree that both looks call right is one that the twigs can be grown of; where its Ids stand. -/
namespace Go.Proofs.YtjojmfhgfeflnaaGreatDoor.QFnExactInner
open Go Go.RowKit Go.Proofs.YtjojmfhgfeflnaaGreatDoorV.PrintWords Go.Proofs.YtjojmfhgfeflnaaGreatDoorV.PrintLast Go.Proofs.YtjojmfhgfeflnaaGreatDoorV.PrintMore Go.Proofs.YtjojmfhgfeflnaaGreatDoor.Val Go.Proofs.YtjojmfhgfeflnaaGreatDoor.TreeIx
set_option linter.unusedVariables false
set_option linter.unusedSimpArgs false

theorem SkipP.fits {l : List S57} : ∀ {d i : Nat} {need : Int}, SkipP l d i need → i + d = l.length → 0 ≤ need → Fits (kdOf l) l.length i need.toNat l.length
  | 0, i, need, h, hd, h0 => by
    have h : need ≤ 0 := h
    have e : need.toNat = 0 := by omega
    have e2 : i = l.length := by omega
    rw [e, e2]
    exact .nil (Nat.le_refl _)
  | d + 1, i, need, h, hd, h0 => by
    obtain ⟨h1, h2, h3, h4⟩ := h
    have ih := h4.fits (by omega) (by omega)
    have e : (need + (rd_T57 l (i : Nat)).f5 - 1).toNat = kdOf l i + (need - 1).toNat := by unfold kdOf; omega
    rw [e] at ih
    obtain ⟨m, k1, k2⟩ := ih.split
    have e2 : need.toNat = (need - 1).toNat + 1 := by omega
    rw [e2]
    exact .cons (by omega) k1 k2
theorem ImplP.ids {l : List S57} : ∀ {d i : Nat} {st : List Int}, ImplP l d i st → ∀ j, i ≤ j → j < i + d → IdsP l j
  | 0, i, st, h, j, h1, h2 => by omega
  | d + 1, i, st, h, j, h1, h2 => by
    by_cases e : j = i
    · rw [e]
      exact h.2.1
    · exact h.2.2.2.2.ids j (by omega) (by omega)
theorem tree_right (l : List S57) (S : Small l) : ∃ r, spec_TreeOk.F l = some r ∧ impl_TreeOk.F l = some r ∧ (r = true → Right l ∧ ∀ j : Nat, j < l.length → NodeP (rd_T57 l j) (j == 0)) := by
  obtain ⟨r, h1, h2, h3⟩ := tree_is l S
  refine ⟨r, h1, h2, fun hr => ?_⟩
  obtain ⟨r', e1, e2⟩ := spec_tells l S
  obtain ⟨r'', e3, e4⟩ := impl_tells l S
  have : r = r' := Option.some.inj (h1.symm.trans e1)
  subst this
  have : r = r'' := Option.some.inj (h2.symm.trans e3)
  subst this
  have a := e2.1 hr
  have b := e4.1 hr
  refine ⟨{ len1 := a.1, len4 := a.2.1, kids := fun j hj => (a.2.2.1.kids j (Nat.zero_le _) (by omega)).1, fits := a.2.2.1.fits (by omega) (by omega), ids := fun i j h1 h2 => b.2.2.ids j (Nat.zero_le _) (by omega) i h1 }, (h3 hr).2⟩
theorem at__none {l : List S57} {id : Int} : ∀ {k : Nat}, at_ l id k = none → ∀ j : Nat, j < k → (rd_T57 l j).f0 ≠ id
  | 0, _, j, hj => by omega
  | k + 1, h, j, hj => by
    unfold at_ at h
    split at h
    · cases h
    · rename_i e
      by_cases c : j = k
      · rw [c]
        exact e
      · exact at__none h j (by omega)
/-- The place that the reference tells. -/
def placeOf (l : List S57) (id : Int) : Int := match atI l id with
  | none => -1
  | some j => (j : Int)
theorem placeOf_none {l : List S57} {id : Int} (h : atI l id = none) : placeOf l id = -1 := by unfold placeOf; rw [h]
theorem placeOf_some {l : List S57} {id : Int} {j : Nat} (h : atI l id = some j) : placeOf l id = (j : Int) := by unfold placeOf; rw [h]
theorem l4At_is (l : List S57) (R : Right l) (id : Int) : spec_l4At.F l id = some (placeOf l id) := by
  rw [spec_l4At.F_eq]
  have hl := R.len4
  have step : ∀ i : Nat, i < l.length → (rd_T57 l (i : Nat)).f0 ≠ id → spec_l4At.L0 id (i : Nat) l = spec_l4At.L0 id ((i + 1 : Nat) : Int) l := by
    intro i hi hn
    rw [spec_l4At.L0_eq, if_pos (by omega), if_pos (by omega), if_neg hn, w64 (by omega) (by omega)]
    rfl
  unfold placeOf
  cases ha : atI l id with
  | none =>
    have hn := at__none ha
    have key : ∀ d i : Nat, i + d = l.length → spec_l4At.L0 id (i : Nat) l = some (-1) := by
      intro d
      induction d with
      | zero =>
        intro i hi
        rw [spec_l4At.L0_eq, if_neg (by omega)]
      | succ d ih =>
        intro i hi
        rw [step i (by omega) (hn i (by omega))]
        exact ih (i + 1) (by omega)
    exact key l.length 0 (by omega)
  | some j =>
    obtain ⟨hj, hid⟩ := at__lt ha
    have key : ∀ d i : Nat, i + d = j → spec_l4At.L0 id (i : Nat) l = some (j : Int) := by
      intro d
      induction d with
      | zero =>
        intro i hi
        have : i = j := by omega
        subst this
        rw [spec_l4At.L0_eq, if_pos (by omega), if_pos (by omega), if_pos hid]
      | succ d ih =>
        intro i hi
        rw [step i (by omega) (by rw [← hid]; exact R.ids i j (by omega) hj)]
        exact ih (i + 1) (by omega)
    exact key j 0 (by omega)
end Go.Proofs.YtjojmfhgfeflnaaGreatDoor.QFnExactInner
end
section
/- How far the reference skips. -/
namespace Go.Proofs.YtjojmfhgfeflnaaGreatDoor.QFnExactInner
open Go Go.RowKit Go.Proofs.YtjojmfhgfeflnaaGreatDoorV.PrintWords Go.Proofs.YtjojmfhgfeflnaaGreatDoorV.PrintLast Go.Proofs.YtjojmfhgfeflnaaGreatDoorV.PrintMore Go.Proofs.YtjojmfhgfeflnaaGreatDoor.Val Go.Proofs.YtjojmfhgfeflnaaGreatDoor.TreeIx
set_option linter.unusedVariables false
set_option linter.unusedSimpArgs false

theorem skip_fits {l : List S57} (R : Right l) : ∀ (d i q e : Nat), l.length - i ≤ d → Fits (kdOf l) l.length i q e → spec_l3Skip.L0 l (i : Nat) (q : Nat) = some (e : Int)
  | d, i, 0, e, hd, h => by
    rw [spec_l3Skip.L0_eq, if_neg (by omega), h.zero]
  | 0, i, q + 1, e, hd, h => by
    have := h.open_.1
    omega
  | d + 1, i, q + 1, e, hd, h => by
    obtain ⟨hi, m, h1, h2⟩ := h.open_
    have h3 := h1.join h2
    have hk : (rd_T57 l (i : Nat)).f5 = (kdOf l i : Int) := by unfold kdOf; rw [Int.toNat_of_nonneg (R.kids i hi)]
    have hc := h1.count
    have hc2 := h1.le
    have hc3 := h3.count
    have hc4 := h3.le
    have hl := R.len4
    rw [spec_l3Skip.L0_eq, if_pos (by omega), if_neg (by omega), if_pos (by omega), if_pos (by omega), hk, if_neg (by omega), if_neg (by omega), w64 (x := (kdOf l i : Int) - 1) (by omega) (by omega), w64 (x := (i : Int) + 1) (by omega) (by omega), w64 (by omega) (by omega)]
    have ih := skip_fits R d (i + 1) (kdOf l i + q) e (by omega) h3
    rw [show ((q + 1 : Nat) : Int) + ((kdOf l i : Int) - 1) = ((kdOf l i + q : Nat) : Int) by omega, show (i : Int) + 1 = ((i + 1 : Nat) : Int) by omega]
    exact ih
theorem skip_is {l : List S57} (R : Right l) {i e : Nat} (h : Fits (kdOf l) l.length i 1 e) : spec_l3Skip.F l (i : Nat) = some (e : Int) := by
  rw [spec_l3Skip.F_eq]
  exact skip_fits R _ i 1 e (Nat.le_refl _) h
end Go.Proofs.YtjojmfhgfeflnaaGreatDoor.QFnExactInner
end
