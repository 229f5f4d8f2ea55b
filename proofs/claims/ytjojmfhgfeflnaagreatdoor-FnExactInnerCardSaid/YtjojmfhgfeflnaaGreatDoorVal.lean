/- The value that a function with rounds comes to, from some number of rounds on: a calculus without rounds. -/
import Derived.Test.YtjojmfhgfeflnaaGreatDoorVAll
namespace Go.Proofs.YtjojmfhgfeflnaaGreatDoor.Val
open Go.RowKit Go.Proofs.YtjojmfhgfeflnaaGreatDoorV.PrintWords Go.Proofs.YtjojmfhgfeflnaaGreatDoorV.PrintLast Go.Proofs.YtjojmfhgfeflnaaGreatDoorV.PrintMore

theorem ev_one {α : Type} {g : Nat → Option α} {r q : α} (h : Ev g r) (h' : Ev g q) : r = q := by
  obtain ⟨K, h⟩ := h
  obtain ⟨K', h'⟩ := h'
  have a := h (max K K') (Nat.le_max_left _ _)
  rw [h' (max K K') (Nat.le_max_right _ _)] at a
  exact (Option.some.inj a).symm

noncomputable def val {α : Type} (g : Nat → Option α) : Option α :=
  @dite (Option α) (∃ r, Ev g r) (Classical.propDecidable _) (fun h => some (Classical.choose h)) (fun _ => none)

theorem val_of {α : Type} {g : Nat → Option α} {r : α} (h : Ev g r) : val g = some r := by
  have hx : ∃ r, Ev g r := ⟨r, h⟩
  unfold val
  rw [dif_pos hx]
  exact congrArg some (ev_one (Classical.choose_spec hx) h)

theorem val_ev {α : Type} {g : Nat → Option α} {r : α} (h : val g = some r) : Ev g r := by
  unfold val at h
  by_cases hx : ∃ r, Ev g r
  · rw [dif_pos hx] at h
    have := Classical.choose_spec hx
    rw [Option.some.inj h] at this
    exact this
  · rw [dif_neg hx] at h
    cases h

theorem val_iff {α : Type} {g : Nat → Option α} {r : α} : val g = some r ↔ Ev g r := ⟨val_ev, val_of⟩

theorem val_rounds {α : Type} {g : Nat → Option α} {r : α} (h : val g = some r) : ∃ k, g k = some r := (val_ev h).rounds

theorem val_ext {α : Type} {g f : Nat → Option α} (h : ∀ r, Ev g r ↔ Ev f r) : val g = val f := by
  cases hg : val g with
  | some r => exact (val_of ((h r).1 (val_ev hg))).symm
  | none =>
    cases hf : val f with
    | none => rfl
    | some r => rw [val_of ((h r).2 (val_ev hf))] at hg; cases hg

theorem val_const {α : Type} (x : Option α) : val (fun _ => x) = x := by
  cases x with
  | some r => exact val_of ⟨0, fun _ _ => rfl⟩
  | none =>
    cases hf : val (fun _ => (none : Option α)) with
    | none => rfl
    | some r =>
      obtain ⟨K, h⟩ := val_ev hf
      cases h K (Nat.le_refl _)

theorem val_shift {α : Type} (g : Nat → Option α) : val (fun k => g (k + 1)) = val g := by
  apply val_ext
  intro r
  constructor
  · rintro ⟨K, h⟩
    refine ⟨K + 1, fun n hn => ?_⟩
    obtain ⟨m, rfl⟩ : ∃ m, n = m + 1 := ⟨n - 1, by omega⟩
    exact h m (by omega)
  · rintro ⟨K, h⟩
    exact ⟨K, fun n hn => h (n + 1) (by omega)⟩

theorem val_ite {α : Type} (c : Prop) [Decidable c] (a b : Nat → Option α) : val (fun k => if c then a k else b k) = if c then val a else val b := by
  by_cases h : c
  · simp only [if_pos h]
  · simp only [if_neg h]

theorem LeO_self {α : Type} (a : Option α) : LeO a a = True := eq_true (LeO.refl a)

theorem val_bind {α β : Type} (g : Nat → Option α) (f : Nat → α → Option β) (hg : ∀ k, LeO (g k) (g (k + 1))) :
    val (fun k => (g k).bind (f k)) = (val g).bind (fun x => val (fun k => f k x)) := by
  cases hv : val g with
  | some a =>
    obtain ⟨K, ha⟩ := val_ev hv
    simp only [Option.bind_some]
    apply val_ext
    intro r
    constructor
    · rintro ⟨K', h⟩
      refine ⟨max K K', fun n hn => ?_⟩
      have hb : (g n).bind (f n) = some r := h n (by omega)
      rw [ha n (by omega)] at hb
      exact hb
    · rintro ⟨K', h⟩
      refine ⟨max K K', fun n hn => ?_⟩
      show (g n).bind (f n) = some r
      rw [ha n (by omega)]
      exact h n (by omega)
  | none =>
    simp only [Option.bind_none]
    cases hw : val (fun k => (g k).bind (f k)) with
    | none => rfl
    | some r =>
      obtain ⟨K, h⟩ := val_ev hw
      obtain ⟨a, ha, _⟩ := Option.bind_eq_some_iff.1 (h K (Nat.le_refl _))
      rw [val_of (Ev.of hg ha)] at hv
      cases hv

theorem val_map {α β : Type} (g : Nat → Option α) (f : α → β) (hg : ∀ k, LeO (g k) (g (k + 1))) :
    val (fun k => (g k).map f) = (val g).map f := by
  have h := val_bind g (fun _ a => some (f a)) hg
  simp only [val_const] at h
  have e : ∀ o : Option α, o.map f = o.bind (fun a => some (f a)) := fun o => by cases o <;> rfl
  rw [e, ← h]
  congr 1
  funext k
  exact e _

theorem w64 {x : Int} (h0 : -9223372036854775808 ≤ x) (h1 : x ≤ 9223372036854775807) : wrap64 x = x := by
  unfold wrap64
  omega

end Go.Proofs.YtjojmfhgfeflnaaGreatDoor.Val
