/- An answer told by what it says: the calculus of two programs that agree. -/
import Derived.Test.YtjojmfhgfeflnaaGreatDoorVal
namespace Go.Proofs.YtjojmfhgfeflnaaGreatDoor.Val
set_option linter.unusedVariables false
/-- The program answers, and its answer says p. -/
def Tells (o : Option Bool) (p : Prop) : Prop := ∃ b, o = some b ∧ (b = true ↔ p)
theorem Tells.no {p : Prop} (h : ¬ p) : Tells (some false) p := ⟨false, rfl, by simp [h]⟩
theorem Tells.yes {p : Prop} (h : p) : Tells (some true) p := ⟨true, rfl, by simp [h]⟩
theorem Tells.is {p : Prop} {b : Bool} (h : b = true ↔ p) : Tells (some b) p := ⟨b, rfl, h⟩
theorem Tells.ite {p : Prop} {c : Prop} [Decidable c] {a b : Option Bool} (h : c → Tells a p) (k : ¬ c → Tells b p) : Tells (if c then a else b) p := by
  by_cases e : c
  · rw [if_pos e]; exact h e
  · rw [if_neg e]; exact k e
theorem Tells.bind {p q : Prop} {a : Option Bool} {f : Bool → Option Bool} (h : Tells a q) (ht : q → Tells (f true) p) (hf : ¬ q → Tells (f false) p) : Tells (a.bind f) p := by
  obtain ⟨b, rfl, hb⟩ := h
  rw [Option.bind_some]
  cases b with
  | true => exact ht (hb.1 rfl)
  | false => exact hf (fun x => by have := hb.2 x; cases this)
theorem Tells.congr {p q : Prop} {a : Option Bool} (h : Tells a q) (e : q ↔ p) : Tells a p := by
  obtain ⟨b, rfl, hb⟩ := h
  exact ⟨b, rfl, hb.trans e⟩
theorem Tells.same {p : Prop} {a b : Option Bool} (h : Tells a p) (k : Tells b p) : ∃ r, a = some r ∧ b = some r := by
  obtain ⟨r, rfl, hr⟩ := h
  obtain ⟨r', rfl, hr'⟩ := k
  have : r = r' := Bool.eq_iff_iff.2 (hr.trans hr'.symm)
  exact ⟨r, rfl, by rw [this]⟩
theorem Tells.flag {p : Prop} {f : Bool} {a b : Option Bool} (h : f = true → Tells a p) (k : f = false → Tells b p) : Tells (if f = true then a else b) p :=
  Tells.ite h (fun e => k (Bool.eq_false_iff.2 e))
/-- A loop that looks at one place after the other and stops at the first that is wrong. -/
theorem scan_tells (L : Int → Option Bool) (n i0 : Nat) (P : Nat → Prop) {q : Prop} (hs : ∀ i : Nat, i0 ≤ i → i < n → (P i ∧ L i = L ((i + 1 : Nat) : Int)) ∨ (¬ P i ∧ L i = some false)) (he : Tells (L n) q) :
    ∀ (d i : Nat), i0 ≤ i → i + d = n → Tells (L i) ((∀ j, i ≤ j → j < n → P j) ∧ q)
  | 0, i, h0, h => by
    have : i = n := by omega
    subst this
    exact he.congr ⟨fun x => ⟨fun j h1 h2 => by omega, x⟩, fun x => x.2⟩
  | d + 1, i, h0, h => by
    rcases hs i h0 (by omega) with ⟨hp, e⟩ | ⟨hp, e⟩
    · rw [e]
      refine (scan_tells L n i0 P hs he d (i + 1) (by omega) (by omega)).congr ⟨fun x => ⟨fun j h1 h2 => ?_, x.2⟩, fun x => ⟨fun j h1 h2 => x.1 j (by omega) h2, x.2⟩⟩
      by_cases c : j = i
      · rw [c]; exact hp
      · exact x.1 j (by omega) h2
    · rw [e]
      exact Tells.no (fun x => hp (x.1 i (Nat.le_refl _) (by omega)))
end Go.Proofs.YtjojmfhgfeflnaaGreatDoor.Val
