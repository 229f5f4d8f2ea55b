/- Written by wip/tools/conv.py: what the laws' own copies, looks and bulks of their structs come to. -/
import Derived.Test.YtiinihponcojkaaFFnExactAdvance
import Derived.Test.YtiinihponcojkaaLoops
namespace Go.Proofs.Ytiinihponcojkaa.QFnExactAdvance
open Go Go.RowKit Go.Proofs.YtiinihponcojkaaV.PrintWords Go.Proofs.YtiinihponcojkaaV.PrintLast Go.Proofs.YtiinihponcojkaaV.PrintMore Go.Proofs.Ytiinihponcojkaa.Val
set_option linter.unusedVariables false
set_option linter.unusedSimpArgs false

abbrev wf_Glyph (x : S86) : Prop := (Lit.int .i64 x.f0).wf = true ∧ (Lit.int .i64 x.f1).wf = true
def of_Glyph (x : S86) : S79 := ⟨x.f0, x.f1⟩
theorem to_Glyph (x : S86) (hx : True) : ∃ t, laws_toGlyph.f (x.f0) (x.f1) = some t ∧ (⟨t.1, t.2⟩ : S79) = of_Glyph x := by
  unfold laws_toGlyph.f
  try simp only [Option.bind_some]
  exact ⟨_, rfl, rfl⟩
theorem eq_Glyph (x : S86) (hx : True) : laws_eqGlyph.f ((of_Glyph x).f0) ((of_Glyph x).f1) ((of_Glyph x).f0) ((of_Glyph x).f1) = some true := by
  unfold laws_eqGlyph.f
  unfold of_Glyph
  simp only [Option.bind_some, if_true, eq_self]
def bulk_GlyphS (l : List S86) : Nat := l.length
theorem sz_GlyphS (l : List S86) (hl : l.length ≤ maxLen ∧ ∀ x ∈ l, wf_Glyph x) (q : Int) (h0 : 0 ≤ q) (hq : q ≤ 1048576) : ∃ r : Int, laws_szGlyphS.f l q = some r ∧ r ≤ q ∧ (0 ≤ r → r = q - (bulk_GlyphS l : Nat)) :=
  sz_flat laws_szGlyphS.f (fun l q => by rfl) l hl.1 q h0 hq
theorem mem_Glyph {l : List S86} {n : Nat} (h : bulk_GlyphS l ≤ n) : l.length ≤ n ∧ ∀ x ∈ l, True := ⟨h, fun _ _ => trivial⟩
theorem to_GlyphS (l : List S86) (h : bulk_GlyphS l ≤ 1048576) : laws_toGlyphS.F l = some (l.map of_Glyph) :=
  to_list of_Glyph (fun _ => True) z86 z79 17592186044416 (by omega) (fun x => laws_toGlyph.f (x.f0) (x.f1)) (fun t => (⟨t.1, t.2⟩ : S79)) (fun l ys i => laws_toGlyphS.L0 l ys i) laws_toGlyphS.F (fun l => laws_toGlyphS.F_eq l) (fun l ys i => laws_toGlyphS.L0_eq l ys i) (fun x hx => to_Glyph x hx) l (mem_Glyph h).1 (mem_Glyph h).2
theorem eq_GlyphS (l : List S86) (h : bulk_GlyphS l ≤ 1048576) : laws_eqGlyphS.F (l.map of_Glyph) (l.map of_Glyph) = some true :=
  eq_list of_Glyph (fun _ => True) z86 z79 (fun x y => laws_eqGlyph.f (x.f0) (x.f1) (y.f0) (y.f1)) (fun a b i => laws_eqGlyphS.L0 a b i) laws_eqGlyphS.F (fun a b => laws_eqGlyphS.F_eq a b) (fun a b i => laws_eqGlyphS.L0_eq a b i) (fun x hx => eq_Glyph x hx) l (mem_Glyph h).1 (mem_Glyph h).2
abbrev wf_Kern (x : S88) : Prop := (Lit.int .i64 x.f0).wf = true ∧ (Lit.int .i64 x.f1).wf = true ∧ (Lit.int .i64 x.f2).wf = true
def of_Kern (x : S88) : S81 := ⟨x.f0, x.f1, x.f2⟩
theorem to_Kern (x : S88) (hx : True) : ∃ t, laws_toKern.f (x.f0) (x.f1) (x.f2) = some t ∧ (⟨t.1, t.2.1, t.2.2⟩ : S81) = of_Kern x := by
  unfold laws_toKern.f
  try simp only [Option.bind_some]
  exact ⟨_, rfl, rfl⟩
theorem eq_Kern (x : S88) (hx : True) : laws_eqKern.f ((of_Kern x).f0) ((of_Kern x).f1) ((of_Kern x).f2) ((of_Kern x).f0) ((of_Kern x).f1) ((of_Kern x).f2) = some true := by
  unfold laws_eqKern.f
  unfold of_Kern
  simp only [Option.bind_some, if_true, eq_self]
def bulk_KernS (l : List S88) : Nat := l.length
theorem sz_KernS (l : List S88) (hl : l.length ≤ maxLen ∧ ∀ x ∈ l, wf_Kern x) (q : Int) (h0 : 0 ≤ q) (hq : q ≤ 1048576) : ∃ r : Int, laws_szKernS.f l q = some r ∧ r ≤ q ∧ (0 ≤ r → r = q - (bulk_KernS l : Nat)) :=
  sz_flat laws_szKernS.f (fun l q => by rfl) l hl.1 q h0 hq
theorem mem_Kern {l : List S88} {n : Nat} (h : bulk_KernS l ≤ n) : l.length ≤ n ∧ ∀ x ∈ l, True := ⟨h, fun _ _ => trivial⟩
theorem to_KernS (l : List S88) (h : bulk_KernS l ≤ 1048576) : laws_toKernS.F l = some (l.map of_Kern) :=
  to_list of_Kern (fun _ => True) z88 z81 11728124029610 (by omega) (fun x => laws_toKern.f (x.f0) (x.f1) (x.f2)) (fun t => (⟨t.1, t.2.1, t.2.2⟩ : S81)) (fun l ys i => laws_toKernS.L0 l ys i) laws_toKernS.F (fun l => laws_toKernS.F_eq l) (fun l ys i => laws_toKernS.L0_eq l ys i) (fun x hx => to_Kern x hx) l (mem_Kern h).1 (mem_Kern h).2
theorem eq_KernS (l : List S88) (h : bulk_KernS l ≤ 1048576) : laws_eqKernS.F (l.map of_Kern) (l.map of_Kern) = some true :=
  eq_list of_Kern (fun _ => True) z88 z81 (fun x y => laws_eqKern.f (x.f0) (x.f1) (x.f2) (y.f0) (y.f1) (y.f2)) (fun a b i => laws_eqKernS.L0 a b i) laws_eqKernS.F (fun a b => laws_eqKernS.F_eq a b) (fun a b i => laws_eqKernS.L0_eq a b i) (fun x hx => eq_Kern x hx) l (mem_Kern h).1 (mem_Kern h).2
abbrev wf_Lig (x : S90) : Prop := (Lit.int .i64 x.f0).wf = true ∧ (Lit.int .i64 x.f1).wf = true ∧ (Lit.int .i64 x.f2).wf = true
def of_Lig (x : S90) : S84 := ⟨x.f0, x.f1, x.f2⟩
theorem to_Lig (x : S90) (hx : True) : ∃ t, laws_toLig.f (x.f0) (x.f1) (x.f2) = some t ∧ (⟨t.1, t.2.1, t.2.2⟩ : S84) = of_Lig x := by
  unfold laws_toLig.f
  try simp only [Option.bind_some]
  exact ⟨_, rfl, rfl⟩
theorem eq_Lig (x : S90) (hx : True) : laws_eqLig.f ((of_Lig x).f0) ((of_Lig x).f1) ((of_Lig x).f2) ((of_Lig x).f0) ((of_Lig x).f1) ((of_Lig x).f2) = some true := by
  unfold laws_eqLig.f
  unfold of_Lig
  simp only [Option.bind_some, if_true, eq_self]
def bulk_LigS (l : List S90) : Nat := l.length
theorem sz_LigS (l : List S90) (hl : l.length ≤ maxLen ∧ ∀ x ∈ l, wf_Lig x) (q : Int) (h0 : 0 ≤ q) (hq : q ≤ 1048576) : ∃ r : Int, laws_szLigS.f l q = some r ∧ r ≤ q ∧ (0 ≤ r → r = q - (bulk_LigS l : Nat)) :=
  sz_flat laws_szLigS.f (fun l q => by rfl) l hl.1 q h0 hq
theorem mem_Lig {l : List S90} {n : Nat} (h : bulk_LigS l ≤ n) : l.length ≤ n ∧ ∀ x ∈ l, True := ⟨h, fun _ _ => trivial⟩
theorem to_LigS (l : List S90) (h : bulk_LigS l ≤ 1048576) : laws_toLigS.F l = some (l.map of_Lig) :=
  to_list of_Lig (fun _ => True) z90 z84 11728124029610 (by omega) (fun x => laws_toLig.f (x.f0) (x.f1) (x.f2)) (fun t => (⟨t.1, t.2.1, t.2.2⟩ : S84)) (fun l ys i => laws_toLigS.L0 l ys i) laws_toLigS.F (fun l => laws_toLigS.F_eq l) (fun l ys i => laws_toLigS.L0_eq l ys i) (fun x hx => to_Lig x hx) l (mem_Lig h).1 (mem_Lig h).2
theorem eq_LigS (l : List S90) (h : bulk_LigS l ≤ 1048576) : laws_eqLigS.F (l.map of_Lig) (l.map of_Lig) = some true :=
  eq_list of_Lig (fun _ => True) z90 z84 (fun x y => laws_eqLig.f (x.f0) (x.f1) (x.f2) (y.f0) (y.f1) (y.f2)) (fun a b i => laws_eqLigS.L0 a b i) laws_eqLigS.F (fun a b => laws_eqLigS.F_eq a b) (fun a b i => laws_eqLigS.L0_eq a b i) (fun x hx => eq_Lig x hx) l (mem_Lig h).1 (mem_Lig h).2
theorem sz_Font (x0 : Int) (x1 : Int) (x2 : Int) (x3 : Int) (x4 : (List S86)) (x5 : (List S88)) (x6 : (List S90)) (g0 : (Lit.int .i64 x0).wf = true) (g1 : (Lit.int .i64 x1).wf = true) (g2 : (Lit.int .i64 x2).wf = true) (g3 : (Lit.int .i64 x3).wf = true) (g4 : ((x4).length ≤ maxLen ∧ ∀ y ∈ x4, wf_Glyph y)) (g5 : ((x5).length ≤ maxLen ∧ ∀ y ∈ x5, wf_Kern y)) (g6 : ((x6).length ≤ maxLen ∧ ∀ y ∈ x6, wf_Lig y)) (q : Int) (h0 : 0 ≤ q) (hq : q ≤ 1048576) : ∃ r : Int, laws_szFont.f x0 x1 x2 x3 x4 x5 x6 q = some r ∧ r ≤ q ∧ (0 ≤ r → r = q - ((bulk_GlyphS x4 + bulk_KernS x5 + bulk_LigS x6 : Nat) : Int)) := by
  unfold laws_szFont.f
  obtain ⟨q1, e1, b1, d1⟩ := sz_GlyphS x4 g4 q (by omega) (by omega)
  rw [e1, Option.bind_some]
  by_cases c1 : q1 < 0
  · rw [if_pos c1]; exact ⟨-1, rfl, by omega, by omega⟩
  rw [if_neg c1]
  have hq1 := d1 (by omega)
  obtain ⟨q2, e2, b2, d2⟩ := sz_KernS x5 g5 q1 (by omega) (by omega)
  rw [e2, Option.bind_some]
  by_cases c2 : q2 < 0
  · rw [if_pos c2]; exact ⟨-1, rfl, by omega, by omega⟩
  rw [if_neg c2]
  have hq2 := d2 (by omega)
  obtain ⟨q3, e3, b3, d3⟩ := sz_LigS x6 g6 q2 (by omega) (by omega)
  rw [e3, Option.bind_some]
  by_cases c3 : q3 < 0
  · rw [if_pos c3]; exact ⟨-1, rfl, by omega, by omega⟩
  rw [if_neg c3]
  have hq3 := d3 (by omega)
  exact ⟨q3, rfl, by omega, fun _ => by omega⟩
theorem to_Font (x0 : Int) (x1 : Int) (x2 : Int) (x3 : Int) (x4 : (List S86)) (x5 : (List S88)) (x6 : (List S90)) (h : bulk_GlyphS x4 + bulk_KernS x5 + bulk_LigS x6 ≤ 1048576) : laws_toFont.F x0 x1 x2 x3 x4 x5 x6 = some (x0, x1, x2, x3, (x4.map of_Glyph), (x5.map of_Kern), (x6.map of_Lig)) := by
  rw [laws_toFont.F_eq]
  have t0 := to_GlyphS x4 (by omega)
  have t1 := to_KernS x5 (by omega)
  have t2 := to_LigS x6 (by omega)
  simp only [t0, t1, t2, Option.bind_some]
theorem eq_Font (x0 : Int) (x1 : Int) (x2 : Int) (x3 : Int) (x4 : (List S86)) (x5 : (List S88)) (x6 : (List S90)) (h : bulk_GlyphS x4 + bulk_KernS x5 + bulk_LigS x6 ≤ 1048576) : laws_eqFont.F x0 x1 x2 x3 (x4.map of_Glyph) (x5.map of_Kern) (x6.map of_Lig) x0 x1 x2 x3 (x4.map of_Glyph) (x5.map of_Kern) (x6.map of_Lig) = some true := by
  rw [laws_eqFont.F_eq]
  have t0 := eq_GlyphS x4 (by omega)
  have t1 := eq_KernS x5 (by omega)
  have t2 := eq_LigS x6 (by omega)
  simp only [t0, t1, t2, Option.bind_some, if_true, eq_self]

end Go.Proofs.Ytiinihponcojkaa.QFnExactAdvance
