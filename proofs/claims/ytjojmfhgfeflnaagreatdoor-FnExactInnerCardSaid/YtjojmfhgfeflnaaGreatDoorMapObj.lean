/- A map that a call keeps for itself, as an object that is told by what was put into it (the newest first): what 'm[k]' and 'm[k] = v' come to. -/
import Derived.Maps.OwnOps
import Derived.Maps.OwnSet
import Derived.Test.YtjojmfhgfeflnaaGreatDoorVAll
namespace Go.Proofs.YtjojmfhgfeflnaaGreatDoor.MapObj
open Go Go.RowKit Go.MapKept Go.ChangeMaps
open Go.Proofs.YtjojmfhgfeflnaaGreatDoorV.PrintWords
set_option linter.unusedVariables false
set_option linter.unusedSimpArgs false

section
variable {κ ν : Type}
def ments (ek : κ → Value) (ev : ν → Value) : Nat → List (κ × ν) → List MapEntry
  | _, [] => []
  | i, p :: r => ⟨ek p.1, ev p.2, i⟩ :: ments ek ev (i + 1) r
variable {ek : κ → Value} {ev : ν → Value}
theorem ments_get : ∀ (l : List (κ × ν)) (i j : Nat), (ments ek ev i l)[j]? = l[j]?.map (fun p => ⟨ek p.1, ev p.2, i + j⟩)
  | [], i, j => by simp [ments]
  | p :: r, i, 0 => by simp [ments]
  | p :: r, i, j + 1 => by
    simp only [ments, List.getElem?_cons_succ]
    rw [ments_get r (i + 1) j]
    congr 1
    funext q
    rw [show i + 1 + j = i + (j + 1) by omega]
theorem ments_length (l : List (κ × ν)) (i : Nat) : (ments ek ev i l).length = l.length := by
  induction l generalizing i with
  | nil => rfl
  | cons p r ih => simp [ments, ih]
theorem ments_mem {l : List (κ × ν)} {i : Nat} {x : MapEntry} (h : x ∈ ments ek ev i l) : ∃ p ∈ l, x.key = ek p.1 ∧ x.val = ev p.2 := by
  induction l generalizing i with
  | nil => simp [ments] at h
  | cons p r ih =>
    rcases List.mem_cons.1 h with rfl | h
    · exact ⟨p, List.mem_cons_self, rfl, rfl⟩
    · obtain ⟨q, hq, e⟩ := ih h
      exact ⟨q, List.mem_cons_of_mem _ hq, e⟩
theorem ments_snoc (l : List (κ × ν)) (i : Nat) (p : κ × ν) : ments ek ev i (l ++ [p]) = ments ek ev i l ++ [⟨ek p.1, ev p.2, i + l.length⟩] := by
  induction l generalizing i with
  | nil => rfl
  | cons q r ih =>
    simp only [List.cons_append, ments, ih, List.length_cons]
    rw [show i + 1 + r.length = i + (r.length + 1) by omega]
theorem ments_set (l : List (κ × ν)) (i j : Nat) (p : κ × ν) : ments ek ev i (l.set j p) = (ments ek ev i l).modify j (fun e => { e with key := ek p.1, val := ev p.2 }) := by
  apply List.ext_getElem?
  intro n
  rw [ments_get, List.getElem?_modify, ments_get, List.getElem?_set]
  by_cases c : j = n
  · subst c
    by_cases hl : j < l.length
    · simp [hl, List.getElem?_eq_getElem hl]
    · simp [hl]
  · simp [c]

end
section
variable {κ ν : Type} [DecidableEq κ]
def mput : List (κ × ν) → κ → ν → List (κ × ν)
  | [], k, v => [(k, v)]
  | p :: r, k, v => if p.1 = k then (k, v) :: r else p :: mput r k v
def mrow : List (κ × ν) → List (κ × ν)
  | [] => []
  | p :: r => mput (mrow r) p.1 p.2
/-- The map's object behind these puts. -/
def mobj (ek : κ → Value) (ev : ν → Value) (h : List (κ × ν)) : Obj := .map (ments ek ev 0 (mrow h)).toArray (mrow h).length
def mget : List (κ × ν) → κ → Option ν
  | [], _ => none
  | p :: r, k => if p.1 = k then some p.2 else mget r k

theorem mput_new {k : κ} (v : ν) : ∀ l : List (κ × ν), (∀ p ∈ l, p.1 ≠ k) → mput l k v = l ++ [(k, v)]
  | [], _ => rfl
  | p :: r, h => by
    unfold mput
    rw [if_neg (h p List.mem_cons_self), mput_new v r (fun q hq => h q (List.mem_cons_of_mem _ hq))]
    rfl
theorem mput_at {k : κ} (v : ν) : ∀ (l : List (κ × ν)) (j : Nat) (p : κ × ν), (l.map (·.1)).Nodup → l[j]? = some p → p.1 = k → mput l k v = l.set j (k, v)
  | [], j, p, _, h, _ => by simp at h
  | q :: r, 0, p, _, h, e => by
    simp at h
    subst h
    unfold mput
    rw [if_pos e]
    rfl
  | q :: r, j + 1, p, hn, h, e => by
    simp only [List.map_cons, List.nodup_cons] at hn
    have hm : p ∈ r := List.mem_of_getElem? (by simpa using h)
    have hq : q.1 ≠ k := fun c => hn.1 (List.mem_map.2 ⟨p, hm, by rw [e, c]⟩)
    unfold mput
    rw [if_neg hq, mput_at v r j p hn.2 (by simpa using h) e]
    rfl
theorem mput_mem {k : κ} {v : ν} : ∀ (l : List (κ × ν)) (q : κ × ν), q ∈ mput l k v → q.1 = k ∨ q ∈ l
  | [], q, h => by simp [mput] at h; exact .inl (by rw [h])
  | p :: r, q, h => by
    unfold mput at h
    split at h
    · rcases List.mem_cons.1 h with h | h
      · exact .inl (by rw [h])
      · exact .inr (List.mem_cons_of_mem _ h)
    · rcases List.mem_cons.1 h with h | h
      · exact .inr (by rw [h]; exact List.mem_cons_self)
      · rcases mput_mem r q h with h | h
        · exact .inl h
        · exact .inr (List.mem_cons_of_mem _ h)
theorem mput_nodup {k : κ} {v : ν} : ∀ l : List (κ × ν), (l.map (·.1)).Nodup → ((mput l k v).map (·.1)).Nodup
  | [], _ => by simp [mput]
  | p :: r, h => by
    simp only [List.map_cons, List.nodup_cons] at h
    unfold mput
    split
    · rename_i e
      simp only [List.map_cons, List.nodup_cons]
      exact ⟨by rw [← e]; exact h.1, h.2⟩
    · rename_i e
      simp only [List.map_cons, List.nodup_cons]
      refine ⟨fun hm => ?_, mput_nodup r h.2⟩
      obtain ⟨q, hq, e2⟩ := List.mem_map.1 hm
      rcases mput_mem r q hq with hq | hq
      · exact e (by rw [← e2, hq])
      · exact h.1 (List.mem_map.2 ⟨q, hq, e2⟩)
theorem mrow_nodup : ∀ h : List (κ × ν), ((mrow h).map (·.1)).Nodup
  | [] => by simp [mrow]
  | p :: r => mput_nodup _ (mrow_nodup r)
theorem mget_mput {k k' : κ} {v : ν} : ∀ l : List (κ × ν), mget (mput l k v) k' = if k = k' then some v else mget l k'
  | [] => rfl
  | p :: r => by
    unfold mput
    by_cases e : p.1 = k
    · rw [if_pos e]
      unfold mget
      by_cases c : k = k'
      · rw [if_pos c, if_pos c]
      · rw [if_neg c, if_neg c, if_neg (fun x => c (e.symm.trans x))]
    · rw [if_neg e]
      unfold mget
      by_cases c : p.1 = k'
      · rw [if_pos c, if_pos c, if_neg (fun x => e (c.trans x.symm))]
      · rw [if_neg c, if_neg c]
        exact mget_mput r
theorem mget_mrow (k : κ) : ∀ h : List (κ × ν), mget (mrow h) k = mget h k
  | [] => rfl
  | p :: r => by
    show mget (mput (mrow r) p.1 p.2) k = _
    rw [mget_mput, mget_mrow k r]
    rfl
theorem mget_none {k : κ} : ∀ {l : List (κ × ν)}, (∀ p ∈ l, p.1 ≠ k) → mget l k = none
  | [], _ => rfl
  | p :: r, h => by
    unfold mget
    rw [if_neg (h p List.mem_cons_self)]
    exact mget_none (fun q hq => h q (List.mem_cons_of_mem _ hq))
theorem mget_at {k : κ} : ∀ {l : List (κ × ν)} {j : Nat} {p : κ × ν}, (l.map (·.1)).Nodup → l[j]? = some p → p.1 = k → mget l k = some p.2
  | [], j, p, _, h, _ => by simp at h
  | q :: r, 0, p, _, h, e => by
    simp at h
    subst h
    unfold mget
    rw [if_pos e]
  | q :: r, j + 1, p, hn, h, e => by
    simp only [List.map_cons, List.nodup_cons] at hn
    have hm : p ∈ r := List.mem_of_getElem? (by simpa using h)
    have hq : q.1 ≠ k := fun c => hn.1 (List.mem_map.2 ⟨p, hm, by rw [e, c]⟩)
    unfold mget
    rw [if_neg hq]
    exact mget_at hn.2 (by simpa using h) e

variable {ek : κ → Value} {ev : ν → Value}
variable {P : Program} {t kt et : TypeId} {d : TypeDesc} {w : World} {g : Nat} {h : List (κ × ν)}
theorem find_cases (hx : ∀ k, IsKey d (ek k)) (inj : ∀ a b, ek a = ek b → a = b) (h : List (κ × ν)) (k : κ) :
    (Instr.findNow d (ek k) (ments ek ev 0 (mrow h)) 0 = some none ∧ ∀ p ∈ mrow h, p.1 ≠ k) ∨ ∃ j p, Instr.findNow d (ek k) (ments ek ev 0 (mrow h)) 0 = some (some (j, ev p.2)) ∧ (mrow h)[j]? = some p ∧ p.1 = k := by
  rcases findNow_spec (hx k) (ments ek ev 0 (mrow h)) 0 (fun x hm => by obtain ⟨p, _, e, _⟩ := ments_mem hm; rw [e]; exact hx _) with ⟨h1, h2⟩ | ⟨j, e, h1, h2, h3⟩
  · refine .inl ⟨h1, fun p hp c => ?_⟩
    obtain ⟨j, hj⟩ := List.getElem?_of_mem hp
    exact h2 ⟨ek p.1, ev p.2, 0 + j⟩ (List.mem_of_getElem? (by rw [ments_get, hj]; rfl)) (by rw [← c])
  · rw [ments_get] at h2
    cases hj : (mrow h)[j]? with
    | none => rw [hj] at h2; simp at h2
    | some p =>
      rw [hj] at h2
      simp at h2
      subst h2
      rw [Nat.zero_add] at h1
      exact .inr ⟨j, p, h1, hj, inj _ _ h3⟩
/-- 'm[k]', and 'v, ok := m[k]'. -/
theorem run_get (ht : P.underlying t = some (.map kt et)) (hd : P.underlying kt = some d) (hx : ∀ k, IsKey d (ek k)) (inj : ∀ a b, ek a = ek b → a = b) {z : Value} (hz : (zeroValue et).run P w = .ok z w)
    (hb : w.heap[g]? = some (mobj ek ev h)) (k : κ) (c : Bool) :
    (Instr.lookup t (.map (some g)) (ek k) c).run P w = .ok (if c then .tuple #[((mget h k).map ev).getD z, .bool (mget h k).isSome] else ((mget h k).map ev).getD z) w := by
  rcases find_cases (ev := ev) hx inj h k with ⟨h1, h2⟩ | ⟨j, p, h1, h2, h3⟩
  · have e : mget h k = none := by rw [← mget_mrow]; exact mget_none h2
    rw [e]
    simp [Instr.lookup, run_underlying ht, MapKept.run_getObj_map hb, run_checkKey hd (hx k), run_findKey hd h1, hz, Result.andThen]
  · have e : mget h k = some p.2 := by rw [← mget_mrow]; exact mget_at (mrow_nodup h) h2 h3
    rw [e]
    simp [Instr.lookup, run_underlying ht, MapKept.run_getObj_map hb, run_checkKey hd (hx k), run_findKey hd h1, Result.andThen]
/-- 'm[k] = v'. -/
theorem run_put (ht : P.underlying t = some (.map kt et)) (hd : P.underlying kt = some d) (hx : ∀ k, IsKey d (ek k)) (inj : ∀ a b, ek a = ek b → a = b)
    (hb : w.heap[g]? = some (mobj ek ev h)) (k : κ) (v : ν) : (Instr.mapUpdate t (.map (some g)) (ek k) (ev v)).run P w = .ok () (setBlock w g (mobj ek ev ((k, v) :: h))) := by
  rcases find_cases (ev := ev) hx inj h k with ⟨h1, h2⟩ | ⟨j, p, h1, h2, h3⟩
  · have e : mobj ek ev ((k, v) :: h) = .map ((ments ek ev 0 (mrow h)).toArray.push ⟨ek k, ev v, (mrow h).length⟩) ((mrow h).length + 1) := by
      unfold mobj
      show Obj.map (ments ek ev 0 (mput (mrow h) k v)).toArray (mput (mrow h) k v).length = _
      rw [mput_new v _ h2, ments_snoc]
      simp
    rw [e]
    simp [Instr.mapUpdate, run_underlying ht, MapKept.run_getObj_map hb, run_checkKey hd (hx k), run_findKey hd h1, MapKept.run_setObj_map _ hb, Result.andThen, setBlock]
  · have e : mobj ek ev ((k, v) :: h) = .map ((ments ek ev 0 (mrow h)).toArray.modify j (fun e => { e with key := ek k, val := ev v })) (mrow h).length := by
      unfold mobj
      show Obj.map (ments ek ev 0 (mput (mrow h) k v)).toArray (mput (mrow h) k v).length = _
      rw [mput_at v _ j p (mrow_nodup h) h2 h3, ments_set]
      congr 1
      · apply Array.ext'
        simp [Array.toList_modify]
      · simp
    rw [e]
    have hkey : (ments ek ev 0 (mrow h))[j]? = some ⟨ek k, ev p.2, 0 + j⟩ := by rw [ments_get, h2, ← h3]; rfl
    have hst := run_keyThatStays (P := P) (w := w) (hx k)
    simp [Instr.mapUpdate, run_underlying ht, MapKept.run_getObj_map hb, run_checkKey hd (hx k), run_findKey hd h1, hkey, hst, MapKept.run_setObj_map _ hb, Result.andThen, setBlock]
end

section
variable {P : Program} {ops : Array Oper} {rest : List Oper} {o : Oper} {a : Act} {Q : Exit → Act → World → Prop}
theorem setBlock_new {w : World} {g : Nat} {o o' : Obj} (hb : w.heap[g]? = some o) : (setBlock w g o').heap[g]? = some o' := by
  unfold setBlock
  exact (heap_set hb).1
theorem setBlock_grown {w : World} {g : Nat} {o o' : Obj} (hb : w.heap[g]? = some o) : w.grownBy (setBlock w g o') (some g) :=
  ⟨rfl, rfl, rfl, by simp [setBlock], fun i _ hi => by unfold setBlock; exact (heap_set hb).2 i (fun e => hi (by rw [e]))⟩
/-- 'make(map[K]V)'. -/
theorem make_event {W : World} (hgd : o.guard = none) {N : Tmp} (_hd : o.dst = some N)
    (hrun : (execOp a.eval o).run P W = .ok (.value (.map (some W.heap.size))) (W.alloc (.map #[] 0)))
    (h : ∀ g, g = W.heap.size → ∀ w1, w1.heap[g]? = some (.map #[] 0) → Below W.heap.size W w1 → wpList P ops Q rest (a.put o.dst (.map (some g))) w1) : wpList P ops Q (o :: rest) a W :=
  Kd.event_run hgd hrun (h _ rfl _ (blk_new W _) (below_alloc (Below.refl _ _) _))
variable {κ ν : Type} [DecidableEq κ] {ek : κ → Value} {ev : ν → Value} {t kt et : TypeId} {d : TypeDesc} {g : Nat} {hist : List (κ × ν)}
/-- 'm[k] = v', behind 'at_mapUpdate'. -/
theorem put_event {W : World} (hgd : o.guard = none) (m x v : Operand) (hop : o.op = Op.mapUpdate t m x v) (hN : o.dst = none) (hm : a.eval m = .map (some g)) (k : κ) (u : ν) (hx : a.eval x = ek k) (hv : a.eval v = ev u)
    (ht : P.underlying t = some (.map kt et)) (hd : P.underlying kt = some d) (hk : ∀ k, IsKey d (ek k)) (inj : ∀ a b, ek a = ek b → a = b) (hb : W.heap[g]? = some (mobj ek ev hist))
    (h : ∀ w', w'.heap[g]? = some (mobj ek ev ((k, u) :: hist)) → W.grownBy w' (some g) → wpList P ops Q rest a w') : wpList P ops Q (o :: rest) a W := by
  refine wpList_plain hgd fun K' hK' => ?_
  unfold Oper.wp
  simp [execOp, hop, hm, hx, hv, run_put ht hd hk inj hb, Result.andThen]
  have h2 := hK' _ _ (h _ (setBlock_new hb) (setBlock_grown hb))
  unfold Oper.upon
  rw [hN]
  exact h2
/-- An entry of a map literal. -/
theorem gate_insert {t' : TypeId} {m x v : Operand} {W : World} (_ho : o.op = Op.insert t' m x v) (h : wpList P ops Q (o :: rest) a W) : wpList P ops Q (o :: rest) a W := h
theorem ins_event {W : World} (hgd : o.guard = none) (m x v : Operand) (hop : o.op = Op.insert t m x v) (hN : o.dst = none) (hm : a.eval m = .map (some g)) (k : κ) (u : ν) (hx : a.eval x = ek k) (hv : a.eval v = ev u)
    (ht : P.underlying t = some (.map kt et)) (hd : P.underlying kt = some d) (hk : ∀ k, IsKey d (ek k)) (inj : ∀ a b, ek a = ek b → a = b) (hb : W.heap[g]? = some (mobj ek ev hist))
    (h : ∀ w', w'.heap[g]? = some (mobj ek ev ((k, u) :: hist)) → W.grownBy w' (some g) → wpList P ops Q rest a w') : wpList P ops Q (o :: rest) a W := by
  refine wpList_plain hgd fun K' hK' => ?_
  unfold Oper.wp
  simp [execOp, hop, hm, hx, hv, run_put ht hd hk inj hb, Result.andThen]
  have h2 := hK' _ _ (h _ (setBlock_new hb) (setBlock_grown hb))
  unfold Oper.upon
  rw [hN]
  exact h2
/-- 'm[k]', behind 'at_lookup'. -/
theorem get_event {W : World} (hgd : o.guard = none) (m x : Operand) (hop : o.op = Op.lookup t m x false) (hm : a.eval m = .map (some g)) (k : κ) (hx : a.eval x = ek k)
    (ht : P.underlying t = some (.map kt et)) (hd : P.underlying kt = some d) (hk : ∀ k, IsKey d (ek k)) (inj : ∀ a b, ek a = ek b → a = b) {z : Value} (hz : (zeroValue et).run P W = .ok z W) (hb : W.heap[g]? = some (mobj ek ev hist)) (r : Value) (hr : ((mget hist k).map ev).getD z = r)
    (h : wpList P ops Q rest (a.put o.dst r) W) : wpList P ops Q (o :: rest) a W := by
  refine wpList_plain hgd fun K' hK' => ?_
  have e := run_get ht hd hk inj hz hb k false
  unfold Oper.wp
  simp [execOp, hop, hm, hx, e, hr, Result.andThen]
  exact hK' _ _ h
/-- 'v, ok := m[k]', behind 'at_lookup'. -/
theorem get_ok_event {W : World} (hgd : o.guard = none) (m x : Operand) (hop : o.op = Op.lookup t m x true) (hm : a.eval m = .map (some g)) (k : κ) (hx : a.eval x = ek k)
    (ht : P.underlying t = some (.map kt et)) (hd : P.underlying kt = some d) (hk : ∀ k, IsKey d (ek k)) (inj : ∀ a b, ek a = ek b → a = b) {z : Value} (hz : (zeroValue et).run P W = .ok z W) (hb : W.heap[g]? = some (mobj ek ev hist)) (r : Value) (b : Bool) (hr : ((mget hist k).map ev).getD z = r) (hbb : (mget hist k).isSome = b)
    (h : wpList P ops Q rest (a.put o.dst (.tuple #[r, .bool b])) W) : wpList P ops Q (o :: rest) a W := by
  refine wpList_plain hgd fun K' hK' => ?_
  have e := run_get ht hd hk inj hz hb k true
  unfold Oper.wp
  simp [execOp, hop, hm, hx, e, hr, hbb, Result.andThen]
  exact hK' _ _ h
end

/-! ### sets -/
section
variable {κ : Type} [DecidableEq κ]
def smem (ks : List κ) (k : κ) : Bool := decide (k ∈ ks)
theorem smem_iff {ks : List κ} {k : κ} : smem ks k = true ↔ k ∈ ks := by
  unfold smem
  exact decide_eq_true_iff
def sobj (ek : κ → Value) (ks : List κ) : Obj := mobj ek Value.bool (ks.map fun k => (k, true))
theorem sobj_nil (ek : κ → Value) : sobj ek [] = .map #[] 0 := rfl
theorem sobj_get (ks : List κ) (k : κ) : ((mget (ks.map fun k => (k, true)) k).map Value.bool).getD (.bool false) = .bool (smem ks k) := by
  induction ks with
  | nil => rfl
  | cons a r ih =>
    simp only [List.map_cons, mget]
    by_cases e : a = k
    · rw [if_pos e]
      simp [e, smem]
    · rw [if_neg e, ih]
      have : ¬ k = a := fun h => e h.symm
      simp [smem, this]
end
section
variable {P : Program} {ops : Array Oper} {rest : List Oper} {o : Oper} {a : Act} {Q : Exit → Act → World → Prop}
variable {κ : Type} [DecidableEq κ] {ek : κ → Value} {t kt et : TypeId} {d : TypeDesc} {g : Nat} {ks : List κ}
theorem sput_event {W : World} (hgd : o.guard = none) (m x v : Operand) (hop : o.op = Op.mapUpdate t m x v) (hN : o.dst = none) (hm : a.eval m = .map (some g)) (k : κ) (hx : a.eval x = ek k) (hv : a.eval v = .bool true)
    (ht : P.underlying t = some (.map kt et)) (hd : P.underlying kt = some d) (hk : ∀ k, IsKey d (ek k)) (inj : ∀ a b, ek a = ek b → a = b) (hb : W.heap[g]? = some (sobj ek ks))
    (h : ∀ w', w'.heap[g]? = some (sobj ek (k :: ks)) → W.grownBy w' (some g) → wpList P ops Q rest a w') : wpList P ops Q (o :: rest) a W :=
  put_event (ev := Value.bool) hgd m x v hop hN hm k true hx hv ht hd hk inj hb h
theorem sget_event {W : World} (hgd : o.guard = none) (m x : Operand) (hop : o.op = Op.lookup t m x false) (hm : a.eval m = .map (some g)) (k : κ) (hx : a.eval x = ek k)
    (ht : P.underlying t = some (.map kt et)) (hd : P.underlying kt = some d) (hk : ∀ k, IsKey d (ek k)) (inj : ∀ a b, ek a = ek b → a = b) (hz : (zeroValue et).run P W = .ok (.bool false) W) (hb : W.heap[g]? = some (sobj ek ks)) (b : Bool) (hbb : smem ks k = b)
    (h : wpList P ops Q rest (a.put o.dst (.bool b)) W) : wpList P ops Q (o :: rest) a W :=
  get_event (ev := Value.bool) hgd m x hop hm k hx ht hd hk inj hz hb (.bool b) (by rw [sobj_get, hbb]) h
end
theorem obj_far {w : World} {g : Nat} {o : Obj} (h : w.heap[g]? = some o) {p : Addr} (hp : g ≠ p.block) (u : Value) : (w.setCell p u).heap[g]? = some o := (Below.heap_setCell w p u g hp).trans h
theorem R_ne_map {α : Type} {d : Kd α} {e : Nat} {w : World} {base : Nat} {ok : Nat → Prop} {v : Value} {xs : List α} (h : d.R e w base ok v xs) {g : Nat} {es : Array MapEntry} {cl : Nat} (hb : w.heap[g]? = some (.map es cl)) : some g ≠ v.ownBlock := by
  obtain ⟨_, inner, ho, _⟩ := h
  intro he
  obtain ⟨cells, hc⟩ := own_typed ho g he.symm
  rw [hc] at hb
  cases hb
theorem R_put_map {α : Type} {d : Kd α} {e : Nat} {w w1 : World} {base : Nat} {ok : Nat → Prop} {v : Value} {xs : List α} (h : d.R e w base ok v xs) {g : Nat} (hg : w.grownBy w1 (some g)) {es : Array MapEntry} {cl : Nat} (hb : w.heap[g]? = some (.map es cl)) : d.R e w1 base ok v xs :=
  Kd.R_mono (Kd.R_grown (Kd.R_bound h) hg (fun k hk => by
    obtain ⟨_, _, _, q, _, cells, hc⟩ := hk
    intro e
    injection e with e
    subst e
    rw [hb] at hc
    cases hc)) (fun _ hk => hk.1)
theorem cells_ne_map {w : World} {g g' : Nat} {cs : Array Value} {t : TypeId} {es : Array MapEntry} {cl : Nat} (h : w.heap[g]? = some (.cells cs t (0, 0))) (h' : w.heap[g']? = some (.map es cl)) : some g ≠ some g' := by
  intro e
  injection e with e
  subst e
  rw [h] at h'
  cases h'
theorem map_ne_cells {w : World} {g g' : Nat} {cs : Array Value} {t : TypeId} {es : Array MapEntry} {cl : Nat} (h : w.heap[g]? = some (.map es cl)) (h' : w.heap[g']? = some (.cells cs t (0, 0))) : g ≠ g' := by
  intro e
  subst e
  rw [h] at h'
  cases h'
theorem vstr_inj (a b : ByteArray) (h : Value.string a = Value.string b) : a = b := by injection h
theorem vint_inj (k : IntKind) (a b : Int) (h : Value.int k a = Value.int k b) : a = b := by injection h
end Go.Proofs.YtjojmfhgfeflnaaGreatDoor.MapObj
