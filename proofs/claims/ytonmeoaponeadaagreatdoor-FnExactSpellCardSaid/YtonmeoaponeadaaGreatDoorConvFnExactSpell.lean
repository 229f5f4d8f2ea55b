/- Written by wip/tools/conv.py: what the laws' own copies, looks and bulks of their structs come to. -/
import Derived.Test.YtonmeoaponeadaaGreatDoorFFnExactSpell
import Derived.Test.YtonmeoaponeadaaGreatDoorLoops
namespace Go.Proofs.YtonmeoaponeadaaGreatDoor.QFnExactSpell
open Go Go.RowKit Go.Proofs.YtonmeoaponeadaaGreatDoorV.PrintWords Go.Proofs.YtonmeoaponeadaaGreatDoorV.PrintLast Go.Proofs.YtonmeoaponeadaaGreatDoorV.PrintMore Go.Proofs.YtonmeoaponeadaaGreatDoor.Val
set_option linter.unusedVariables false
set_option linter.unusedSimpArgs false

abbrev wf_Word (x : S31) : Prop := (Lit.int .i64 x.f0).wf = true ∧ x.f1.size ≤ maxLen ∧ (Lit.int .i64 x.f2).wf = true ∧ x.f3.size ≤ maxLen
def bulk_Word (x : S31) : Nat := x.f1.size + x.f3.size
def of_Word (x : S31) : S34 := ⟨x.f0, x.f1, x.f2, x.f3⟩
theorem sz_Word (x : S31) (hx : wf_Word x) (q : Int) (h0 : 0 ≤ q) (hq : q ≤ 1048576) : ∃ r : Int, laws_szWord.f (x.f0) (x.f1) (x.f2) (x.f3) q = some r ∧ r ≤ q ∧ (0 ≤ r → r = q - (bulk_Word x : Nat)) := by
  unfold laws_szWord.f
  obtain ⟨g0, g1, g2, g3⟩ := hx
  have hs1 : x.f1.size ≤ 9223372036854775807 := by have := g1; unfold maxLen at this; omega
  have hw1 : wrap64 (q - (x.f1.size : Int)) = q - (x.f1.size : Int) := w64 (by omega) (by omega)
  simp only [hw1]
  by_cases c1 : q - (x.f1.size : Int) < 0
  · rw [if_pos c1]; exact ⟨-1, rfl, by omega, by omega⟩
  rw [if_neg c1]
  obtain ⟨q1, hq1⟩ : ∃ q1 : Int, q1 = q - (x.f1.size : Int) := ⟨_, rfl⟩
  rw [← hq1]
  have hs2 : x.f3.size ≤ 9223372036854775807 := by have := g3; unfold maxLen at this; omega
  have hw2 : wrap64 (q1 - (x.f3.size : Int)) = q1 - (x.f3.size : Int) := w64 (by omega) (by omega)
  simp only [hw2]
  by_cases c2 : q1 - (x.f3.size : Int) < 0
  · rw [if_pos c2]; exact ⟨-1, rfl, by omega, by omega⟩
  rw [if_neg c2]
  obtain ⟨q2, hq2⟩ : ∃ q2 : Int, q2 = q1 - (x.f3.size : Int) := ⟨_, rfl⟩
  rw [← hq2]
  exact ⟨q2, rfl, by omega, fun _ => by unfold bulk_Word; omega⟩
theorem to_Word (x : S31) (hx : bulk_Word x ≤ 1048576) : ∃ t, laws_toWord.f (x.f0) (x.f1) (x.f2) (x.f3) = some t ∧ (⟨t.1, t.2.1, t.2.2.1, t.2.2.2⟩ : S34) = of_Word x := by
  unfold laws_toWord.f
  try simp only [Option.bind_some]
  exact ⟨_, rfl, rfl⟩
theorem eq_Word (x : S31) (hx : bulk_Word x ≤ 1048576) : laws_eqWord.f ((of_Word x).f0) ((of_Word x).f1) ((of_Word x).f2) ((of_Word x).f3) ((of_Word x).f0) ((of_Word x).f1) ((of_Word x).f2) ((of_Word x).f3) = some true := by
  unfold laws_eqWord.f
  unfold of_Word
  simp only [Option.bind_some, if_true, eq_self]
def bulk_WordS (l : List S31) : Nat := l.length + (l.map bulk_Word).sum
theorem sz_WordS (l : List S31) (hl : l.length ≤ maxLen ∧ ∀ x ∈ l, wf_Word x) (q : Int) (h0 : 0 ≤ q) (hq : q ≤ 1048576) : ∃ r : Int, laws_szWordS.F l q = some r ∧ r ≤ q ∧ (0 ≤ r → r = q - (bulk_WordS l : Nat)) :=
  sz_list bulk_Word wf_Word z31 (fun x q => laws_szWord.f (x.f0) (x.f1) (x.f2) (x.f3) q) (fun l q i => laws_szWordS.L0 l q i) laws_szWordS.F (fun l q => laws_szWordS.F_eq l q) (fun l q i => laws_szWordS.L0_eq l q i) (fun x hx q a b => sz_Word x hx q a b) l hl q h0 hq
theorem mem_Word {l : List S31} {n : Nat} (h : bulk_WordS l ≤ n) : l.length ≤ n ∧ ∀ x ∈ l, bulk_Word x ≤ n :=
  ⟨by unfold bulk_WordS at h; omega, fun x hx => by have := sum_mem bulk_Word hx; unfold bulk_WordS at h; omega⟩
theorem to_WordS (l : List S31) (h : bulk_WordS l ≤ 1048576) : laws_toWordS.F l = some (l.map of_Word) :=
  to_list of_Word (fun x => bulk_Word x ≤ 1048576) z31 z34 5864062014805 (by omega) (fun x => laws_toWord.f (x.f0) (x.f1) (x.f2) (x.f3)) (fun t => (⟨t.1, t.2.1, t.2.2.1, t.2.2.2⟩ : S34)) (fun l ys i => laws_toWordS.L0 l ys i) laws_toWordS.F (fun l => laws_toWordS.F_eq l) (fun l ys i => laws_toWordS.L0_eq l ys i) (fun x hx => to_Word x hx) l (mem_Word h).1 (mem_Word h).2
theorem eq_WordS (l : List S31) (h : bulk_WordS l ≤ 1048576) : laws_eqWordS.F (l.map of_Word) (l.map of_Word) = some true :=
  eq_list of_Word (fun x => bulk_Word x ≤ 1048576) z31 z34 (fun x y => laws_eqWord.f (x.f0) (x.f1) (x.f2) (x.f3) (y.f0) (y.f1) (y.f2) (y.f3)) (fun a b i => laws_eqWordS.L0 a b i) laws_eqWordS.F (fun a b => laws_eqWordS.F_eq a b) (fun a b i => laws_eqWordS.L0_eq a b i) (fun x hx => eq_Word x hx) l (mem_Word h).1 (mem_Word h).2

end Go.Proofs.YtonmeoaponeadaaGreatDoor.QFnExactSpell
