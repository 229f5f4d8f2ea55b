/- Marks over the lists of a font: the numbers that they come to; what the law's own font is as the program's. -/
import Derived.Test.YtiinihponcojkaaShapeP
import Derived.Test.YtiinihponcojkaaConvFnExactShape
namespace Go.Proofs.Ytiinihponcojkaa.QFnExactShape
open Go Go.RowKit Go.Proofs.YtiinihponcojkaaV.PrintWords Go.Proofs.YtiinihponcojkaaV.PrintLast Go.Proofs.YtiinihponcojkaaV.PrintMore Go.Proofs.Ytiinihponcojkaa.Val Go.Proofs.Ytiinihponcojkaa.MapObj Go.Proofs.Ytiinihponcojkaa.MapKey
set_option linter.unusedVariables false
set_option linter.unusedSimpArgs false

theorem mark_loop {β : Type} (L : List β → Int → Int → Option (Int × List β)) (c : Nat) (hc : c ≤ 3) (m : Nat) (hm : m ≤ 1048576) (a : Int) (h0 : 0 ≤ a) (h1 : a ≤ 4611686018427387904)
    (step : ∀ (x : List β) (i : Nat), x.length = m → i < m → ∃ x', x'.length = m ∧ L x (a + c * i) i = L x' (a + c * i + c) ((i + 1 : Nat) : Int)) (stop : ∀ (x : List β) (q : Int), x.length = m → L x q m = some (q, x)) (x : List β) (hx : x.length = m) : ∃ x', L x a 0 = some (a + c * m, x') := by
  have key : ∀ (d i : Nat) (x : List β), i + d = m → x.length = m → ∃ x', L x (a + c * i) i = some (a + c * m, x') := by
    intro d
    induction d with
    | zero =>
      intro i x hi hx
      obtain rfl : i = m := by omega
      exact ⟨x, stop x _ hx⟩
    | succ d ih =>
      intro i x hi hx
      obtain ⟨x', hx', e⟩ := step x i hx (by omega)
      rw [e]
      have := ih (i + 1) x' (by omega) hx'
      rw [show a + (c : Int) * ((i + 1 : Nat) : Int) = a + c * i + c by push_cast; rw [Int.mul_add]; omega] at this
      exact this
  have := key m 0 x (by omega) hx
  rw [show a + (c : Int) * ((0 : Nat) : Int) = a by simp] at this
  exact this
theorem mark_glyphs (l : List S79) (a : Int) (h : l.length ≤ 1048576) (h0 : 0 ≤ a) (h1 : a ≤ 4611686018427387904) : ∃ x', laws_markGlyphS.F l a = some (a + 2 * l.length, x') := by
  rw [laws_markGlyphS.F_eq]
  refine mark_loop (fun x q i => laws_markGlyphS.L0 x q i) 2 (by omega) l.length h a h0 h1 (fun x i hx hi => ?_) (fun x q hx => ?_) l rfl
  · have hb : ((2 : Nat) : Int) * (i : Int) ≤ 2097152 := by omega
    refine ⟨?w, ?len, ?eq⟩
    case eq =>
      show laws_markGlyphS.L0 x (a + ((2 : Nat) : Int) * i) i = _
      rw [laws_markGlyphS.L0_eq, if_pos (by omega), if_pos (by omega), Option.bind_some, w64 (x := a + ((2 : Nat) : Int) * i + 1) (by omega) (by omega), w64 (by omega) (by omega), w64 (by omega) (by omega)]
      rw [show a + ((2 : Nat) : Int) * i + 1 + 1 = a + ((2 : Nat) : Int) * i + ((2 : Nat) : Int) by omega]
      rfl
    case len =>
      rw [List.length_set, List.length_set]
      exact hx
  · show laws_markGlyphS.L0 x q l.length = _
    rw [laws_markGlyphS.L0_eq, if_neg (by omega)]
theorem mark_kerns (l : List S81) (a : Int) (h : l.length ≤ 1048576) (h0 : 0 ≤ a) (h1 : a ≤ 4611686018427387904) : ∃ x', laws_markKernS.F l a = some (a + 3 * l.length, x') := by
  rw [laws_markKernS.F_eq]
  refine mark_loop (fun x q i => laws_markKernS.L0 x q i) 3 (by omega) l.length h a h0 h1 (fun x i hx hi => ?_) (fun x q hx => ?_) l rfl
  · have hb : ((3 : Nat) : Int) * (i : Int) ≤ 3145728 := by omega
    refine ⟨?w, ?len, ?eq⟩
    case eq =>
      show laws_markKernS.L0 x (a + ((3 : Nat) : Int) * i) i = _
      rw [laws_markKernS.L0_eq, if_pos (by omega), if_pos (by omega), Option.bind_some, Option.bind_some, w64 (x := a + ((3 : Nat) : Int) * i + 1) (by omega) (by omega), w64 (x := a + ((3 : Nat) : Int) * i + 1 + 1) (by omega) (by omega), w64 (by omega) (by omega), w64 (by omega) (by omega)]
      rw [show a + ((3 : Nat) : Int) * i + 1 + 1 + 1 = a + ((3 : Nat) : Int) * i + ((3 : Nat) : Int) by omega]
      rfl
    case len =>
      rw [List.length_set, List.length_set, List.length_set]
      exact hx
  · show laws_markKernS.L0 x q l.length = _
    rw [laws_markKernS.L0_eq, if_neg (by omega)]
theorem mark_ligs (l : List S84) (a : Int) (h : l.length ≤ 1048576) (h0 : 0 ≤ a) (h1 : a ≤ 4611686018427387904) : ∃ x', laws_markLigS.F l a = some (a + 3 * l.length, x') := by
  rw [laws_markLigS.F_eq]
  refine mark_loop (fun x q i => laws_markLigS.L0 x q i) 3 (by omega) l.length h a h0 h1 (fun x i hx hi => ?_) (fun x q hx => ?_) l rfl
  · have hb : ((3 : Nat) : Int) * (i : Int) ≤ 3145728 := by omega
    refine ⟨?w, ?len, ?eq⟩
    case eq =>
      show laws_markLigS.L0 x (a + ((3 : Nat) : Int) * i) i = _
      rw [laws_markLigS.L0_eq, if_pos (by omega), if_pos (by omega), Option.bind_some, Option.bind_some, w64 (x := a + ((3 : Nat) : Int) * i + 1) (by omega) (by omega), w64 (x := a + ((3 : Nat) : Int) * i + 1 + 1) (by omega) (by omega), w64 (by omega) (by omega), w64 (by omega) (by omega)]
      rw [show a + ((3 : Nat) : Int) * i + 1 + 1 + 1 = a + ((3 : Nat) : Int) * i + ((3 : Nat) : Int) by omega]
      rfl
    case len =>
      rw [List.length_set, List.length_set, List.length_set]
      exact hx
  · show laws_markLigS.L0 x q l.length = _
    rw [laws_markLigS.L0_eq, if_neg (by omega)]
theorem mark_font (a b c d : Int) (g : List S79) (k : List S81) (l : List S84) (hg : g.length ≤ 1048576) (hk : k.length ≤ 1048576) (hl : l.length ≤ 1048576) : ∃ (q : Int) (x y z : _), laws_markFont.F a b c d g k l 1 = some (q, x, y, z) ∧ 1 ≤ q ∧ q ≤ 16777216 := by
  obtain ⟨x, hx⟩ := mark_glyphs g 1 hg (by omega) (by omega)
  obtain ⟨y, hy⟩ := mark_kerns k (1 + 2 * g.length) hk (by omega) (by omega)
  obtain ⟨z, hz⟩ := mark_ligs l (1 + 2 * g.length + 3 * k.length) hl (by omega) (by omega)
  rw [laws_markFont.F_eq, hx, Option.bind_some]
  dsimp only
  rw [hy, Option.bind_some]
  dsimp only
  rw [hz, Option.bind_some]
  exact ⟨_, _, _, _, rfl, by omega, by omega⟩
theorem wf_ligs (l : List S90) (h : ∀ x ∈ l, wf_Lig x) : ∀ j : Nat, j < (l.map of_Lig).length → ok64 (rd_T84 (l.map of_Lig) (j : Nat)).f0 ∧ ok64 (rd_T84 (l.map of_Lig) (j : Nat)).f1 ∧ ok64 (rd_T84 (l.map of_Lig) (j : Nat)).f2 := by
  intro j hj
  rw [List.length_map] at hj
  have e : rd_T84 (l.map of_Lig) (j : Nat) = of_Lig l[j] := by
    unfold rd_T84
    rw [Int.toNat_natCast, List.getD_eq_getElem?_getD, List.getElem?_map, List.getElem?_eq_getElem hj]
    rfl
  rw [e]
  exact h _ (List.getElem_mem hj)
theorem wf_kerns (l : List S88) (h : ∀ x ∈ l, wf_Kern x) : ∀ j : Nat, j < (l.map of_Kern).length → ok64 (rd_T81 (l.map of_Kern) (j : Nat)).f0 ∧ ok64 (rd_T81 (l.map of_Kern) (j : Nat)).f1 := by
  intro j hj
  rw [List.length_map] at hj
  have e : rd_T81 (l.map of_Kern) (j : Nat) = of_Kern l[j] := by
    unfold rd_T81
    rw [Int.toNat_natCast, List.getD_eq_getElem?_getD, List.getElem?_map, List.getElem?_eq_getElem hj]
    rfl
  rw [e]
  have := h _ (List.getElem_mem hj)
  exact ⟨this.1, this.2.1⟩
end Go.Proofs.Ytiinihponcojkaa.QFnExactShape
