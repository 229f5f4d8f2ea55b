/- A row of the call's own, put in order by the library's sort: from its cells to the sort's row, and back. -/
import Derived.Test.YtbhmoodfninbjaaQFnExactPlainFontx0
import Derived.Shelf.SlSortCmp.InsertionK
namespace Go.Proofs.Ytbhmoodfninbjaa.QFnExactPlainFont
open Go Go.RowKit Go.Sort Go.Proofs.YtbhmoodfninbjaaW.PrintWords Go.Proofs.YtbhmoodfninbjaaW.PrintLast Go.Proofs.YtbhmoodfninbjaaW.PrintMore
set_option linter.unusedVariables false
set_option linter.unusedSimpArgs false
instance : Inhabited S34 := ⟨z34⟩
def encG (x : S34) : List Value := [.int .i64 x.f0, .int .i64 x.f1]
theorem encG_len (x : S34) : (encG x).length = 2 := rfl
theorem getBang {d : Array S34} {j : Nat} (h : j < d.size) : d[j]! = d[j] := getElem!_pos d j h
/-- The row's cells, element by element. -/
theorem flat_of {w : World} {base : Nat} {ok : Nat → Prop} {xs : List S34} {inner : List Value} (h : Reps (k34.M w base ok) 2 xs inner) : inner = (flatK encG 2 xs.toArray).toList := by
  have hl : inner.length = xs.length * 2 := h.1
  apply List.ext_getElem?
  intro t
  by_cases ht : t < xs.length * 2
  · have hj : t / 2 < xs.length := by omega
    have hp := k34_openM (h.2 (t / 2) xs[t / 2] (List.getElem?_eq_getElem hj))
    have h1 : inner[t]? = ((inner.drop (t / 2 * 2)).take 2)[t % 2]? := by
      rw [List.getElem?_take, if_pos (by omega), List.getElem?_drop]
      congr 1
      omega
    have hs : t < (flatK encG 2 xs.toArray).size := by rw [size_flatK]; simpa using ht
    have h2 : (flatK encG 2 xs.toArray).toList[t]? = some ((encG (xs.toArray[t / 2]!))[t % 2]!) := by
      rw [Array.getElem?_toList, Array.getElem?_eq_getElem hs, ← getElem!_pos _ t hs, get_flatK _ _ _ _ (by simpa using ht)]
    rw [h1, hp, h2]
    have hb : (xs.toArray[t / 2]!) = xs[t / 2] := by rw [getBang (by simpa using hj)]; simp
    rw [hb]
    have hm : t % 2 = 0 ∨ t % 2 = 1 := by omega
    rcases hm with hm | hm <;> rw [hm] <;> rfl
  · rw [List.getElem?_eq_none (by omega), List.getElem?_eq_none (by rw [Array.length_toList, size_flatK]; simp; omega)]
theorem reps_flat (w : World) (base : Nat) (ok : Nat → Prop) (ys : List S34) : Reps (k34.M w base ok) 2 ys (flatK encG 2 ys.toArray).toList := by
  refine ⟨by rw [Array.length_toList, size_flatK]; simp, fun j p hj => ?_⟩
  obtain ⟨hlt, rfl⟩ := List.getElem?_eq_some_iff.1 hj
  have e : ((flatK encG 2 ys.toArray).toList.drop (j * 2)).take 2 = [.int .i64 ys[j].f0, .int .i64 ys[j].f1] := by
    apply List.ext_getElem?
    intro t
    by_cases ht : t < 2
    · have hs : j * 2 + t < (flatK encG 2 ys.toArray).size := by rw [size_flatK]; simp; omega
      rw [List.getElem?_take, if_pos ht, List.getElem?_drop, Array.getElem?_toList, Array.getElem?_eq_getElem hs, ← getElem!_pos (flatK encG 2 ys.toArray) (j * 2 + t) hs, get_flatK _ _ _ _ (by simp; omega)]
      have hd : (j * 2 + t) / 2 = j := by omega
      have hm : (j * 2 + t) % 2 = t := by omega
      have hb : (ys.toArray[j]!) = ys[j] := by rw [getBang (by simpa using hlt)]; simp
      rw [hd, hm, hb]
      match t, ht with
      | 0, _ | 1, _ => rfl
    · rw [List.getElem?_eq_none (by rw [List.length_take]; omega), List.getElem?_eq_none (by simp; omega)]
  rw [e]
  exact k34_mkM _ _ _ _
theorem putCells_take (F cur : Array Value) (hF : F.size ≤ cur.size) : (putCells id 0 F cur).toList.take F.size = F.toList := by
  apply List.ext_getElem?
  intro t
  by_cases ht : t < F.size
  · rw [List.getElem?_take, if_pos ht, Array.getElem?_toList, Array.getElem?_toList]
    unfold putCells
    rw [Array.getElem?_mapIdx, Array.getElem?_eq_getElem (show t < cur.size by omega), Option.map_some, if_pos ⟨by omega, by omega⟩, Array.getElem?_eq_getElem ht, Nat.sub_zero, getElem!_pos F t ht]
    rfl
  · rw [List.getElem?_eq_none (by rw [List.length_take]; omega), List.getElem?_eq_none (by rw [Array.length_toList]; omega)]
/-- What the sort's world is to a row of the call's own. -/
theorem sorted_row {w W : World} {g n cap : Nat} {ok : Nat → Prop} {xs ys : List S34} (h : k34.R 34 W w.heap.size ok (.slice (some ⟨g, 0, none⟩) n cap) xs) (hl : ys.length = xs.length) (m : Nat) (os : Array Obj) :
    HoldsK encG 2 W g 0 xs.toArray ∧ k34.R 34 (sortWorldK encG 2 W g 0 m ys.toArray os) w.heap.size ok (.slice (some ⟨g, 0, none⟩) n cap) ys ∧ W.grownBy (sortWorldK encG 2 W g 0 m ys.toArray os) (some g) := by
  obtain ⟨h0, inner, ho, hr⟩ := h
  have hf := flat_of hr
  obtain ⟨ho1, ho2⟩ := ho
  rcases ho2 with ⟨e, _⟩ | ⟨g', cap', cur, e, hb, hh, hnc, hcm, hcs, ht⟩
  · cases e
  · injection e with e1 e2 e3
    injection e1 with e1
    injection e1 with e1
    subst e1 e3
    have hn : xs.length = n := e2.symm
    have z : k34.sz = 2 := rfl
    have hg : g < W.heap.size := by
      cases hk : W.heap[g]? with
      | none => rw [hk] at hh; cases hh
      | some o => exact (Array.getElem?_eq_some_iff.1 hk).1
    rw [z] at hcs ht ho1
    have hF : (flatK encG 2 ys.toArray).size = n * 2 := by rw [size_flatK]; simp; omega
    have heap : (sortWorldK encG 2 W g 0 m ys.toArray os).heap = (W.heap.modify g (onCells (putCells id 0 (flatK encG 2 ys.toArray)))) ++ os := rfl
    have atg : (sortWorldK encG 2 W g 0 m ys.toArray os).heap[g]? = some (.cells (putCells id 0 (flatK encG 2 ys.toArray) cur) 34 (0, 0)) := by
      rw [heap, Array.getElem?_append_left (by simpa using hg), Array.getElem?_modify, if_pos rfl, hh]
      rfl
    refine ⟨?_, ⟨h0, (flatK encG 2 ys.toArray).toList, ⟨by rw [Array.length_toList, hF, hl, hn, z], Or.inr ⟨g, cap, _, by rw [hl, hn], hb, atg, by omega, hcm, by rw [z]; unfold putCells; rw [Array.size_mapIdx]; exact hcs, ?_⟩⟩, ?_⟩, ?_⟩
    · intro j hj
      rw [size_flatK] at hj
      have hj : j < n * 2 := by simpa [hn] using hj
      rw [Nat.zero_add]
      refine ⟨?_, blk_frozen hh j⟩
      rw [blk_cell hh j]
      have : cur.toList[j]? = some (flatK encG 2 xs.toArray)[j]! := by
        have h1 : (cur.toList.take (n * 2))[j]? = inner[j]? := by rw [← hn, ht]
        rw [List.getElem?_take, if_pos hj] at h1
        have hs : j < (flatK encG 2 xs.toArray).size := by rw [size_flatK]; simpa [hn] using hj
        rw [h1, hf, Array.getElem?_toList, Array.getElem?_eq_getElem hs, getElem!_pos _ j hs]
      rw [Array.getElem?_toList] at this
      exact this
    · rw [z, hl, hn, ← hF]
      exact putCells_take _ _ (by rw [hF, hcs]; exact Nat.mul_le_mul_right 2 (by omega))
    · exact reps_flat _ _ _ _
    · refine ⟨rfl, rfl, rfl, ?_, fun k hk hne => ?_⟩
      · rw [heap]
        simp
      · rw [heap, Array.getElem?_append_left (by simpa using hk), Array.getElem?_modify, if_neg (fun e => hne (by rw [e]))]
end Go.Proofs.Ytbhmoodfninbjaa.QFnExactPlainFont
