/- Written by wip/tools/conv.py: what the laws' own copies, looks and bulks of their structs come to. -/
import Derived.Test.YtjghahkecglgdaaFFnExactSpecificity
import Derived.Test.YtjghahkecglgdaaLoops
namespace Go.Proofs.Ytjghahkecglgdaa.QFnExactSpecificity
open Go Go.RowKit Go.Proofs.YtjghahkecglgdaaV.PrintWords Go.Proofs.YtjghahkecglgdaaV.PrintLast Go.Proofs.YtjghahkecglgdaaV.PrintMore Go.Proofs.Ytjghahkecglgdaa.Val
set_option linter.unusedVariables false
set_option linter.unusedSimpArgs false

abbrev wf_Basic (x : S183) : Prop := (Lit.int .i64 x.f0).wf = true ∧ x.f1.size ≤ maxLen ∧ x.f2.size ≤ maxLen ∧ (Lit.int .i64 x.f3).wf = true ∧ (Lit.int .i64 x.f4).wf = true
def bulk_Basic (x : S183) : Nat := x.f1.size + x.f2.size
def of_Basic (x : S183) : S106 := ⟨x.f0, x.f1, x.f2, x.f3, x.f4⟩
theorem sz_Basic (x : S183) (hx : wf_Basic x) (q : Int) (h0 : 0 ≤ q) (hq : q ≤ 1048576) : ∃ r : Int, laws_szBasic.f (x.f0) (x.f1) (x.f2) (x.f3) (x.f4) q = some r ∧ r ≤ q ∧ (0 ≤ r → r = q - (bulk_Basic x : Nat)) := by
  unfold laws_szBasic.f
  obtain ⟨g0, g1, g2, g3, g4⟩ := hx
  have hs1 : x.f1.size ≤ 9223372036854775807 := by have := g1; unfold maxLen at this; omega
  have hw1 : wrap64 (q - (x.f1.size : Int)) = q - (x.f1.size : Int) := w64 (by omega) (by omega)
  simp only [hw1]
  by_cases c1 : q - (x.f1.size : Int) < 0
  · rw [if_pos c1]; exact ⟨-1, rfl, by omega, by omega⟩
  rw [if_neg c1]
  obtain ⟨q1, hq1⟩ : ∃ q1 : Int, q1 = q - (x.f1.size : Int) := ⟨_, rfl⟩
  rw [← hq1]
  have hs2 : x.f2.size ≤ 9223372036854775807 := by have := g2; unfold maxLen at this; omega
  have hw2 : wrap64 (q1 - (x.f2.size : Int)) = q1 - (x.f2.size : Int) := w64 (by omega) (by omega)
  simp only [hw2]
  by_cases c2 : q1 - (x.f2.size : Int) < 0
  · rw [if_pos c2]; exact ⟨-1, rfl, by omega, by omega⟩
  rw [if_neg c2]
  obtain ⟨q2, hq2⟩ : ∃ q2 : Int, q2 = q1 - (x.f2.size : Int) := ⟨_, rfl⟩
  rw [← hq2]
  exact ⟨q2, rfl, by omega, fun _ => by unfold bulk_Basic; omega⟩
theorem to_Basic (x : S183) (hx : bulk_Basic x ≤ 1048576) : ∃ t, laws_toBasic.f (x.f0) (x.f1) (x.f2) (x.f3) (x.f4) = some t ∧ (⟨t.1, t.2.1, t.2.2.1, t.2.2.2.1, t.2.2.2.2⟩ : S106) = of_Basic x := by
  unfold laws_toBasic.f
  try simp only [Option.bind_some]
  exact ⟨_, rfl, rfl⟩
theorem eq_Basic (x : S183) (hx : bulk_Basic x ≤ 1048576) : laws_eqBasic.f ((of_Basic x).f0) ((of_Basic x).f1) ((of_Basic x).f2) ((of_Basic x).f3) ((of_Basic x).f4) ((of_Basic x).f0) ((of_Basic x).f1) ((of_Basic x).f2) ((of_Basic x).f3) ((of_Basic x).f4) = some true := by
  unfold laws_eqBasic.f
  unfold of_Basic
  simp only [Option.bind_some, if_true, eq_self]
def bulk_BasicS (l : List S183) : Nat := l.length + (l.map bulk_Basic).sum
theorem sz_BasicS (l : List S183) (hl : l.length ≤ maxLen ∧ ∀ x ∈ l, wf_Basic x) (q : Int) (h0 : 0 ≤ q) (hq : q ≤ 1048576) : ∃ r : Int, laws_szBasicS.F l q = some r ∧ r ≤ q ∧ (0 ≤ r → r = q - (bulk_BasicS l : Nat)) :=
  sz_list bulk_Basic wf_Basic z183 (fun x q => laws_szBasic.f (x.f0) (x.f1) (x.f2) (x.f3) (x.f4) q) (fun l q i => laws_szBasicS.L0 l q i) laws_szBasicS.F (fun l q => laws_szBasicS.F_eq l q) (fun l q i => laws_szBasicS.L0_eq l q i) (fun x hx q a b => sz_Basic x hx q a b) l hl q h0 hq
theorem mem_Basic {l : List S183} {n : Nat} (h : bulk_BasicS l ≤ n) : l.length ≤ n ∧ ∀ x ∈ l, bulk_Basic x ≤ n :=
  ⟨by unfold bulk_BasicS at h; omega, fun x hx => by have := sum_mem bulk_Basic hx; unfold bulk_BasicS at h; omega⟩
theorem to_BasicS (l : List S183) (h : bulk_BasicS l ≤ 1048576) : laws_toBasicS.F l = some (l.map of_Basic) :=
  to_list of_Basic (fun x => bulk_Basic x ≤ 1048576) z183 z106 5026338869833 (by omega) (fun x => laws_toBasic.f (x.f0) (x.f1) (x.f2) (x.f3) (x.f4)) (fun t => (⟨t.1, t.2.1, t.2.2.1, t.2.2.2.1, t.2.2.2.2⟩ : S106)) (fun l ys i => laws_toBasicS.L0 l ys i) laws_toBasicS.F (fun l => laws_toBasicS.F_eq l) (fun l ys i => laws_toBasicS.L0_eq l ys i) (fun x hx => to_Basic x hx) l (mem_Basic h).1 (mem_Basic h).2
theorem eq_BasicS (l : List S183) (h : bulk_BasicS l ≤ 1048576) : laws_eqBasicS.F (l.map of_Basic) (l.map of_Basic) = some true :=
  eq_list of_Basic (fun x => bulk_Basic x ≤ 1048576) z183 z106 (fun x y => laws_eqBasic.f (x.f0) (x.f1) (x.f2) (x.f3) (x.f4) (y.f0) (y.f1) (y.f2) (y.f3) (y.f4)) (fun a b i => laws_eqBasicS.L0 a b i) laws_eqBasicS.F (fun a b => laws_eqBasicS.F_eq a b) (fun a b i => laws_eqBasicS.L0_eq a b i) (fun x hx => eq_Basic x hx) l (mem_Basic h).1 (mem_Basic h).2
abbrev wf_Alt (x : S198) : Prop := ((x.f0).length ≤ maxLen ∧ ∀ y ∈ x.f0, wf_Basic y)
def bulk_Alt (x : S198) : Nat := bulk_BasicS x.f0
def of_Alt (x : S198) : S112 := ⟨(x.f0.map of_Basic)⟩
theorem sz_Alt (x : S198) (hx : wf_Alt x) (q : Int) (h0 : 0 ≤ q) (hq : q ≤ 1048576) : ∃ r : Int, laws_szAlt.F (x.f0) q = some r ∧ r ≤ q ∧ (0 ≤ r → r = q - (bulk_Alt x : Nat)) := by
  rw [laws_szAlt.F_eq]
  have g0 := hx
  obtain ⟨q1, e1, b1, d1⟩ := sz_BasicS x.f0 g0 q (by omega) (by omega)
  rw [e1, Option.bind_some]
  by_cases c1 : q1 < 0
  · rw [if_pos c1]; exact ⟨-1, rfl, by omega, by omega⟩
  rw [if_neg c1]
  have hq1 := d1 (by omega)
  exact ⟨q1, rfl, by omega, fun _ => by unfold bulk_Alt; omega⟩
theorem to_Alt (x : S198) (hx : bulk_Alt x ≤ 1048576) : ∃ t, laws_toAlt.F (x.f0) = some t ∧ (⟨t⟩ : S112) = of_Alt x := by
  rw [laws_toAlt.F_eq]
  have t0 := to_BasicS x.f0 (by unfold bulk_Alt at hx; omega)
  try simp only [t0, Option.bind_some]
  exact ⟨_, rfl, rfl⟩
theorem eq_Alt (x : S198) (hx : bulk_Alt x ≤ 1048576) : laws_eqAlt.F ((of_Alt x).f0) ((of_Alt x).f0) = some true := by
  have t0 := eq_BasicS x.f0 (by unfold bulk_Alt at hx; omega)
  rw [laws_eqAlt.F_eq]
  unfold of_Alt
  simp only [t0, Option.bind_some, if_true, eq_self]
def bulk_AltS (l : List S198) : Nat := l.length + (l.map bulk_Alt).sum
theorem sz_AltS (l : List S198) (hl : l.length ≤ maxLen ∧ ∀ x ∈ l, wf_Alt x) (q : Int) (h0 : 0 ≤ q) (hq : q ≤ 1048576) : ∃ r : Int, laws_szAltS.F l q = some r ∧ r ≤ q ∧ (0 ≤ r → r = q - (bulk_AltS l : Nat)) :=
  sz_list bulk_Alt wf_Alt z198 (fun x q => laws_szAlt.F (x.f0) q) (fun l q i => laws_szAltS.L0 l q i) laws_szAltS.F (fun l q => laws_szAltS.F_eq l q) (fun l q i => laws_szAltS.L0_eq l q i) (fun x hx q a b => sz_Alt x hx q a b) l hl q h0 hq
theorem mem_Alt {l : List S198} {n : Nat} (h : bulk_AltS l ≤ n) : l.length ≤ n ∧ ∀ x ∈ l, bulk_Alt x ≤ n :=
  ⟨by unfold bulk_AltS at h; omega, fun x hx => by have := sum_mem bulk_Alt hx; unfold bulk_AltS at h; omega⟩
theorem to_AltS (l : List S198) (h : bulk_AltS l ≤ 1048576) : laws_toAltS.F l = some (l.map of_Alt) :=
  to_list of_Alt (fun x => bulk_Alt x ≤ 1048576) z198 z112 11728124029610 (by omega) (fun x => laws_toAlt.F (x.f0)) (fun t => (⟨t⟩ : S112)) (fun l ys i => laws_toAltS.L0 l ys i) laws_toAltS.F (fun l => laws_toAltS.F_eq l) (fun l ys i => laws_toAltS.L0_eq l ys i) (fun x hx => to_Alt x hx) l (mem_Alt h).1 (mem_Alt h).2
theorem eq_AltS (l : List S198) (h : bulk_AltS l ≤ 1048576) : laws_eqAltS.F (l.map of_Alt) (l.map of_Alt) = some true :=
  eq_list of_Alt (fun x => bulk_Alt x ≤ 1048576) z198 z112 (fun x y => laws_eqAlt.F (x.f0) (y.f0)) (fun a b i => laws_eqAltS.L0 a b i) laws_eqAltS.F (fun a b => laws_eqAltS.F_eq a b) (fun a b i => laws_eqAltS.L0_eq a b i) (fun x hx => eq_Alt x hx) l (mem_Alt h).1 (mem_Alt h).2
abbrev wf_Simple (x : S186) : Prop := wf_Basic x.f0 ∧ ((x.f1).length ≤ maxLen ∧ ∀ y ∈ x.f1, wf_Alt y)
def bulk_Simple (x : S186) : Nat := bulk_Basic x.f0 + bulk_AltS x.f1
def of_Simple (x : S186) : S109 := ⟨(of_Basic x.f0), (x.f1.map of_Alt)⟩
theorem sz_Simple (x : S186) (hx : wf_Simple x) (q : Int) (h0 : 0 ≤ q) (hq : q ≤ 1048576) : ∃ r : Int, laws_szSimple.F (x.f0.f0) (x.f0.f1) (x.f0.f2) (x.f0.f3) (x.f0.f4) (x.f1) q = some r ∧ r ≤ q ∧ (0 ≤ r → r = q - (bulk_Simple x : Nat)) := by
  rw [laws_szSimple.F_eq]
  obtain ⟨g0, g1⟩ := hx
  obtain ⟨q1, e1, b1, d1⟩ := sz_Basic x.f0 g0 q (by omega) (by omega)
  rw [e1, Option.bind_some]
  by_cases c1 : q1 < 0
  · rw [if_pos c1]; exact ⟨-1, rfl, by omega, by omega⟩
  rw [if_neg c1]
  have hq1 := d1 (by omega)
  obtain ⟨q2, e2, b2, d2⟩ := sz_AltS x.f1 g1 q1 (by omega) (by omega)
  rw [e2, Option.bind_some]
  by_cases c2 : q2 < 0
  · rw [if_pos c2]; exact ⟨-1, rfl, by omega, by omega⟩
  rw [if_neg c2]
  have hq2 := d2 (by omega)
  exact ⟨q2, rfl, by omega, fun _ => by unfold bulk_Simple; omega⟩
theorem to_Simple (x : S186) (hx : bulk_Simple x ≤ 1048576) : ∃ t, laws_toSimple.F (x.f0.f0) (x.f0.f1) (x.f0.f2) (x.f0.f3) (x.f0.f4) (x.f1) = some t ∧ (⟨(⟨t.1, t.2.1, t.2.2.1, t.2.2.2.1, t.2.2.2.2.1⟩ : S106), t.2.2.2.2.2⟩ : S109) = of_Simple x := by
  rw [laws_toSimple.F_eq]
  have t0 := to_AltS x.f1 (by unfold bulk_Simple at hx; omega)
  try unfold laws_toBasic.f
  try simp only [t0, Option.bind_some]
  exact ⟨_, rfl, rfl⟩
theorem eq_Simple (x : S186) (hx : bulk_Simple x ≤ 1048576) : laws_eqSimple.F ((of_Simple x).f0.f0) ((of_Simple x).f0.f1) ((of_Simple x).f0.f2) ((of_Simple x).f0.f3) ((of_Simple x).f0.f4) ((of_Simple x).f1) ((of_Simple x).f0.f0) ((of_Simple x).f0.f1) ((of_Simple x).f0.f2) ((of_Simple x).f0.f3) ((of_Simple x).f0.f4) ((of_Simple x).f1) = some true := by
  have t0 := eq_Basic x.f0 (by unfold bulk_Simple at hx; omega)
  have t1 := eq_AltS x.f1 (by unfold bulk_Simple at hx; omega)
  rw [laws_eqSimple.F_eq]
  unfold of_Simple
  simp only [t0, t1, Option.bind_some, if_true, eq_self]
def bulk_SimpleS (l : List S186) : Nat := l.length + (l.map bulk_Simple).sum
theorem sz_SimpleS (l : List S186) (hl : l.length ≤ maxLen ∧ ∀ x ∈ l, wf_Simple x) (q : Int) (h0 : 0 ≤ q) (hq : q ≤ 1048576) : ∃ r : Int, laws_szSimpleS.F l q = some r ∧ r ≤ q ∧ (0 ≤ r → r = q - (bulk_SimpleS l : Nat)) :=
  sz_list bulk_Simple wf_Simple z186 (fun x q => laws_szSimple.F (x.f0.f0) (x.f0.f1) (x.f0.f2) (x.f0.f3) (x.f0.f4) (x.f1) q) (fun l q i => laws_szSimpleS.L0 l q i) laws_szSimpleS.F (fun l q => laws_szSimpleS.F_eq l q) (fun l q i => laws_szSimpleS.L0_eq l q i) (fun x hx q a b => sz_Simple x hx q a b) l hl q h0 hq
theorem mem_Simple {l : List S186} {n : Nat} (h : bulk_SimpleS l ≤ n) : l.length ≤ n ∧ ∀ x ∈ l, bulk_Simple x ≤ n :=
  ⟨by unfold bulk_SimpleS at h; omega, fun x hx => by have := sum_mem bulk_Simple hx; unfold bulk_SimpleS at h; omega⟩
theorem to_SimpleS (l : List S186) (h : bulk_SimpleS l ≤ 1048576) : laws_toSimpleS.F l = some (l.map of_Simple) :=
  to_list of_Simple (fun x => bulk_Simple x ≤ 1048576) z186 z109 3518437208883 (by omega) (fun x => laws_toSimple.F (x.f0.f0) (x.f0.f1) (x.f0.f2) (x.f0.f3) (x.f0.f4) (x.f1)) (fun t => (⟨(⟨t.1, t.2.1, t.2.2.1, t.2.2.2.1, t.2.2.2.2.1⟩ : S106), t.2.2.2.2.2⟩ : S109)) (fun l ys i => laws_toSimpleS.L0 l ys i) laws_toSimpleS.F (fun l => laws_toSimpleS.F_eq l) (fun l ys i => laws_toSimpleS.L0_eq l ys i) (fun x hx => to_Simple x hx) l (mem_Simple h).1 (mem_Simple h).2
theorem eq_SimpleS (l : List S186) (h : bulk_SimpleS l ≤ 1048576) : laws_eqSimpleS.F (l.map of_Simple) (l.map of_Simple) = some true :=
  eq_list of_Simple (fun x => bulk_Simple x ≤ 1048576) z186 z109 (fun x y => laws_eqSimple.F (x.f0.f0) (x.f0.f1) (x.f0.f2) (x.f0.f3) (x.f0.f4) (x.f1) (y.f0.f0) (y.f0.f1) (y.f0.f2) (y.f0.f3) (y.f0.f4) (y.f1)) (fun a b i => laws_eqSimpleS.L0 a b i) laws_eqSimpleS.F (fun a b => laws_eqSimpleS.F_eq a b) (fun a b i => laws_eqSimpleS.L0_eq a b i) (fun x hx => eq_Simple x hx) l (mem_Simple h).1 (mem_Simple h).2
abbrev wf_Compound (x : S160) : Prop := (Lit.int .i64 x.f0).wf = true ∧ ((x.f1).length ≤ maxLen ∧ ∀ y ∈ x.f1, wf_Simple y)
def bulk_Compound (x : S160) : Nat := bulk_SimpleS x.f1
def of_Compound (x : S160) : S103 := ⟨x.f0, (x.f1.map of_Simple)⟩
theorem sz_Compound (x : S160) (hx : wf_Compound x) (q : Int) (h0 : 0 ≤ q) (hq : q ≤ 1048576) : ∃ r : Int, laws_szCompound.F (x.f0) (x.f1) q = some r ∧ r ≤ q ∧ (0 ≤ r → r = q - (bulk_Compound x : Nat)) := by
  rw [laws_szCompound.F_eq]
  obtain ⟨g0, g1⟩ := hx
  obtain ⟨q1, e1, b1, d1⟩ := sz_SimpleS x.f1 g1 q (by omega) (by omega)
  rw [e1, Option.bind_some]
  by_cases c1 : q1 < 0
  · rw [if_pos c1]; exact ⟨-1, rfl, by omega, by omega⟩
  rw [if_neg c1]
  have hq1 := d1 (by omega)
  exact ⟨q1, rfl, by omega, fun _ => by unfold bulk_Compound; omega⟩
theorem to_Compound (x : S160) (hx : bulk_Compound x ≤ 1048576) : ∃ t, laws_toCompound.F (x.f0) (x.f1) = some t ∧ (⟨t.1, t.2⟩ : S103) = of_Compound x := by
  rw [laws_toCompound.F_eq]
  have t0 := to_SimpleS x.f1 (by unfold bulk_Compound at hx; omega)
  try simp only [t0, Option.bind_some]
  exact ⟨_, rfl, rfl⟩
theorem eq_Compound (x : S160) (hx : bulk_Compound x ≤ 1048576) : laws_eqCompound.F ((of_Compound x).f0) ((of_Compound x).f1) ((of_Compound x).f0) ((of_Compound x).f1) = some true := by
  have t0 := eq_SimpleS x.f1 (by unfold bulk_Compound at hx; omega)
  rw [laws_eqCompound.F_eq]
  unfold of_Compound
  simp only [t0, Option.bind_some, if_true, eq_self]
def bulk_CompoundS (l : List S160) : Nat := l.length + (l.map bulk_Compound).sum
theorem sz_CompoundS (l : List S160) (hl : l.length ≤ maxLen ∧ ∀ x ∈ l, wf_Compound x) (q : Int) (h0 : 0 ≤ q) (hq : q ≤ 1048576) : ∃ r : Int, laws_szCompoundS.F l q = some r ∧ r ≤ q ∧ (0 ≤ r → r = q - (bulk_CompoundS l : Nat)) :=
  sz_list bulk_Compound wf_Compound z160 (fun x q => laws_szCompound.F (x.f0) (x.f1) q) (fun l q i => laws_szCompoundS.L0 l q i) laws_szCompoundS.F (fun l q => laws_szCompoundS.F_eq l q) (fun l q i => laws_szCompoundS.L0_eq l q i) (fun x hx q a b => sz_Compound x hx q a b) l hl q h0 hq
theorem mem_Compound {l : List S160} {n : Nat} (h : bulk_CompoundS l ≤ n) : l.length ≤ n ∧ ∀ x ∈ l, bulk_Compound x ≤ n :=
  ⟨by unfold bulk_CompoundS at h; omega, fun x hx => by have := sum_mem bulk_Compound hx; unfold bulk_CompoundS at h; omega⟩
theorem to_CompoundS (l : List S160) (h : bulk_CompoundS l ≤ 1048576) : laws_toCompoundS.F l = some (l.map of_Compound) :=
  to_list of_Compound (fun x => bulk_Compound x ≤ 1048576) z160 z103 8796093022208 (by omega) (fun x => laws_toCompound.F (x.f0) (x.f1)) (fun t => (⟨t.1, t.2⟩ : S103)) (fun l ys i => laws_toCompoundS.L0 l ys i) laws_toCompoundS.F (fun l => laws_toCompoundS.F_eq l) (fun l ys i => laws_toCompoundS.L0_eq l ys i) (fun x hx => to_Compound x hx) l (mem_Compound h).1 (mem_Compound h).2
theorem eq_CompoundS (l : List S160) (h : bulk_CompoundS l ≤ 1048576) : laws_eqCompoundS.F (l.map of_Compound) (l.map of_Compound) = some true :=
  eq_list of_Compound (fun x => bulk_Compound x ≤ 1048576) z160 z103 (fun x y => laws_eqCompound.F (x.f0) (x.f1) (y.f0) (y.f1)) (fun a b i => laws_eqCompoundS.L0 a b i) laws_eqCompoundS.F (fun a b => laws_eqCompoundS.F_eq a b) (fun a b i => laws_eqCompoundS.L0_eq a b i) (fun x hx => eq_Compound x hx) l (mem_Compound h).1 (mem_Compound h).2
theorem sz_Selector (x0 : (List S160)) (g0 : ((x0).length ≤ maxLen ∧ ∀ y ∈ x0, wf_Compound y)) (q : Int) (h0 : 0 ≤ q) (hq : q ≤ 1048576) : ∃ r : Int, laws_szSelector.F x0 q = some r ∧ r ≤ q ∧ (0 ≤ r → r = q - ((bulk_CompoundS x0 : Nat) : Int)) := by
  rw [laws_szSelector.F_eq]
  obtain ⟨q1, e1, b1, d1⟩ := sz_CompoundS x0 g0 q (by omega) (by omega)
  rw [e1, Option.bind_some]
  by_cases c1 : q1 < 0
  · rw [if_pos c1]; exact ⟨-1, rfl, by omega, by omega⟩
  rw [if_neg c1]
  have hq1 := d1 (by omega)
  exact ⟨q1, rfl, by omega, fun _ => by omega⟩
theorem to_Selector (x0 : (List S160)) (h : bulk_CompoundS x0 ≤ 1048576) : laws_toSelector.F x0 = some (x0.map of_Compound) := by
  rw [laws_toSelector.F_eq]
  have t0 := to_CompoundS x0 (by omega)
  simp only [t0, Option.bind_some]
theorem eq_Selector (x0 : (List S160)) (h : bulk_CompoundS x0 ≤ 1048576) : laws_eqSelector.F (x0.map of_Compound) (x0.map of_Compound) = some true := by
  rw [laws_eqSelector.F_eq]
  have t0 := eq_CompoundS x0 (by omega)
  simp only [t0, Option.bind_some, if_true, eq_self]

end Go.Proofs.Ytjghahkecglgdaa.QFnExactSpecificity
