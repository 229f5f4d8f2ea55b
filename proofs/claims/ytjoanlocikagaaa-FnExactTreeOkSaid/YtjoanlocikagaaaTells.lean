/- An answer told by what it says: the calculus of two programs that agree. -/
import Derived.Test.YtjoanlocikagaaaVal
namespace Go.Proofs.Ytjoanlocikagaaa.Val
set_option linter.unusedVariables false
/-- The program answers, and its answer says p. -/
def Tells (o : Option Bool) (p : Prop) : Prop := ∃ b, o = some b ∧ (b = true ↔ p)
theorem Tells.no {p : Prop} (h : ¬ p) : Tells (some false) p := ⟨false, rfl, by simp [h]⟩
theorem Tells.yes {p : Prop} (h : p) : Tells (some true) p := ⟨true, rfl, by simp [h]⟩
theorem Tells.is {p : Prop} {b : Bool} (h : b = true ↔ p) : Tells (some b) p := ⟨b, rfl, h⟩
theorem Tells.ite {p : Prop} {c : Prop} [Decidable c] {a b : Option Bool} (h : c → Tells a p) (k : ¬ c → Tells b p) : Tells (if c then a else b) p := by
  by_cases e : c
  · rw [if_pos e]; exact h e
  · rw [if_neg e]; exact k e
theorem Tells.bind {p q : Prop} {a : Option Bool} {f : Bool → Option Bool} (h : Tells a q) (ht : q → Tells (f true) p) (hf : ¬ q → Tells (f false) p) : Tells (a.bind f) p := by
  obtain ⟨b, rfl, hb⟩ := h
  rw [Option.bind_some]
  cases b with
  | true => exact ht (hb.1 rfl)
  | false => exact hf (fun x => by have := hb.2 x; cases this)
theorem Tells.congr {p q : Prop} {a : Option Bool} (h : Tells a q) (e : q ↔ p) : Tells a p := by
  obtain ⟨b, rfl, hb⟩ := h
  exact ⟨b, rfl, hb.trans e⟩
theorem Tells.same {p : Prop} {a b : Option Bool} (h : Tells a p) (k : Tells b p) : ∃ r, a = some r ∧ b = some r := by
  obtain ⟨r, rfl, hr⟩ := h
  obtain ⟨r', rfl, hr'⟩ := k
  have : r = r' := Bool.eq_iff_iff.2 (hr.trans hr'.symm)
  exact ⟨r, rfl, by rw [this]⟩
theorem Tells.flag {p : Prop} {f : Bool} {a b : Option Bool} (h : f = true → Tells a p) (k : f = false → Tells b p) : Tells (if f = true then a else b) p :=
  Tells.ite h (fun e => k (Bool.eq_false_iff.2 e))
end Go.Proofs.Ytjoanlocikagaaa.Val
