/- A map that a call keeps for itself whose keys are of any kind that the kit reads as a key (arrays too): what 'm[k]' and 'm[k] = v' come to (MapObj, over Keyed). -/
import Derived.Test.YtiinihponcojkaaMapObj
import Derived.Maps.Keyed
import Derived.WideKeyPair
namespace Go.Proofs.Ytiinihponcojkaa.MapKey
open Go Go.RowKit Go.MapKept Go.ChangeMaps Go.WideShapes Go.Proofs.Ytiinihponcojkaa.MapObj Go.Maps
open Go.Proofs.YtiinihponcojkaaV.PrintWords
set_option linter.unusedVariables false
set_option linter.unusedSimpArgs false

section
variable {κ ν : Type} [DecidableEq κ]
theorem mrow_mem : ∀ {h : List (κ × ν)} {p : κ × ν}, p ∈ mrow h → ∃ q ∈ h, q.1 = p.1
  | [], p, hp => by cases hp
  | q :: r, p, hp => by
    rcases mput_mem (mrow r) p hp with e | hp
    · exact ⟨q, List.mem_cons_self, e.symm⟩
    · obtain ⟨x, hx, e⟩ := mrow_mem hp
      exact ⟨x, List.mem_cons_of_mem _ hx, e⟩
/-- The keys that a map of this kind may hold. -/
structure Keys (P : Program) (kt : TypeId) (ek : κ → Value) (ok : κ → Prop) : Prop where
  law : Keyed P kt
  key : ∀ k, ok k → ∃ l, keyOf P kt (ek k) = some l
  inj : ∀ a b, ek a = ek b → a = b
variable {ek : κ → Value} {ev : ν → Value} {P : Program} {t kt et : TypeId} {ok : κ → Prop} {w : World} {g : Nat} {h : List (κ × ν)}
theorem find_cases (K : Keys P kt ek ok) (w : World) (hh : ∀ p ∈ h, ok p.1) {k : κ} (hk : ok k) :
    ((Instr.findKey kt (ek k) (ments ek ev 0 (mrow h))).run P w = .ok none w ∧ ∀ p ∈ mrow h, p.1 ≠ k) ∨ ∃ j p, (Instr.findKey kt (ek k) (ments ek ev 0 (mrow h))).run P w = .ok (some (j, ev p.2)) w ∧ (mrow h)[j]? = some p ∧ p.1 = k := by
  obtain ⟨lx, hx⟩ := K.key k hk
  rcases K.law.find w hx (ments ek ev 0 (mrow h)) (fun x hm => by
    obtain ⟨p, hp, e, _⟩ := ments_mem hm
    obtain ⟨q, hq, e2⟩ := mrow_mem hp
    rw [e, ← e2]
    exact K.key _ (hh q hq)) with ⟨h1, h2⟩ | ⟨j, e, h1, h2, h3⟩
  · refine .inl ⟨h1, fun p hp c => ?_⟩
    obtain ⟨j, hj⟩ := List.getElem?_of_mem hp
    exact h2 ⟨ek p.1, ev p.2, 0 + j⟩ (List.mem_of_getElem? (by rw [ments_get, hj]; rfl)) (by rw [← c])
  · rw [ments_get] at h2
    cases hj : (mrow h)[j]? with
    | none => rw [hj] at h2; simp at h2
    | some p =>
      rw [hj] at h2
      simp at h2
      subst h2
      exact .inr ⟨j, p, h1, hj, K.inj _ _ h3⟩
/-- 'm[k]', and 'v, ok := m[k]'. -/
theorem run_get (ht : P.underlying t = some (.map kt et)) (K : Keys P kt ek ok) {z : Value} (hz : (zeroValue et).run P w = .ok z w) (hh : ∀ p ∈ h, ok p.1)
    (hb : w.heap[g]? = some (mobj ek ev h)) {k : κ} (hk : ok k) (c : Bool) :
    (Instr.lookup t (.map (some g)) (ek k) c).run P w = .ok (if c then .tuple #[((mget h k).map ev).getD z, .bool (mget h k).isSome] else ((mget h k).map ev).getD z) w := by
  obtain ⟨lx, hx⟩ := K.key k hk
  rcases find_cases (ev := ev) K w hh hk with ⟨h1, h2⟩ | ⟨j, p, h1, h2, h3⟩
  · have e : mget h k = none := by rw [← mget_mrow]; exact mget_none h2
    rw [e]
    simp [Instr.lookup, run_underlying ht, MapKept.run_getObj_map hb, K.law.check w _ hx, h1, hz, Result.andThen]
  · have e : mget h k = some p.2 := by rw [← mget_mrow]; exact mget_at (mrow_nodup h) h2 h3
    rw [e]
    simp [Instr.lookup, run_underlying ht, MapKept.run_getObj_map hb, K.law.check w _ hx, h1, Result.andThen]
/-- 'm[k] = v'. -/
theorem run_put (ht : P.underlying t = some (.map kt et)) (K : Keys P kt ek ok) (hh : ∀ p ∈ h, ok p.1)
    (hb : w.heap[g]? = some (mobj ek ev h)) {k : κ} (hk : ok k) (v : ν) : (Instr.mapUpdate t (.map (some g)) (ek k) (ev v)).run P w = .ok () (setBlock w g (mobj ek ev ((k, v) :: h))) := by
  obtain ⟨lx, hx⟩ := K.key k hk
  rcases find_cases (ev := ev) K w hh hk with ⟨h1, h2⟩ | ⟨j, p, h1, h2, h3⟩
  · have e : mobj ek ev ((k, v) :: h) = .map ((ments ek ev 0 (mrow h)).toArray.push ⟨ek k, ev v, (mrow h).length⟩) ((mrow h).length + 1) := by
      unfold mobj
      show Obj.map (ments ek ev 0 (mput (mrow h) k v)).toArray (mput (mrow h) k v).length = _
      rw [mput_new v _ h2, ments_snoc]
      simp
    rw [e]
    simp [Instr.mapUpdate, run_underlying ht, MapKept.run_getObj_map hb, K.law.check w _ hx, h1, MapKept.run_setObj_map _ hb, Result.andThen, setBlock]
  · have e : mobj ek ev ((k, v) :: h) = .map ((ments ek ev 0 (mrow h)).toArray.modify j (fun e => { e with key := ek k, val := ev v })) (mrow h).length := by
      unfold mobj
      show Obj.map (ments ek ev 0 (mput (mrow h) k v)).toArray (mput (mrow h) k v).length = _
      rw [mput_at v _ j p (mrow_nodup h) h2 h3, ments_set]
      congr 1
      · apply Array.ext'
        simp [Array.toList_modify]
      · simp
    rw [e]
    have hkey : (ments ek ev 0 (mrow h))[j]? = some ⟨ek k, ev p.2, 0 + j⟩ := by rw [ments_get, h2, ← h3]; rfl
    have hst := K.law.stays w hx
    simp [Instr.mapUpdate, run_underlying ht, MapKept.run_getObj_map hb, K.law.check w _ hx, h1, hkey, hst, MapKept.run_setObj_map _ hb, Result.andThen, setBlock]
end

section
variable {P : Program} {ops : Array Oper} {rest : List Oper} {o : Oper} {a : Act} {Q : Exit → Act → World → Prop}
variable {κ ν : Type} [DecidableEq κ] {ek : κ → Value} {ev : ν → Value} {t kt et : TypeId} {ok : κ → Prop} {g : Nat} {hist : List (κ × ν)}
/-- 'm[k] = v', behind 'at_mapUpdate'. -/
theorem kput_event {W : World} (K : Keys P kt ek ok) (hgd : o.guard = none) (m x v : Operand) (hop : o.op = Op.mapUpdate t m x v) (hN : o.dst = none) (hm : a.eval m = .map (some g)) (k : κ) (u : ν) (hk : ok k) (hx : a.eval x = ek k) (hv : a.eval v = ev u)
    (ht : P.underlying t = some (.map kt et)) (hh : ∀ p ∈ hist, ok p.1) (hb : W.heap[g]? = some (mobj ek ev hist))
    (h : ∀ w', w'.heap[g]? = some (mobj ek ev ((k, u) :: hist)) → W.grownBy w' (some g) → wpList P ops Q rest a w') : wpList P ops Q (o :: rest) a W := by
  refine wpList_plain hgd fun K' hK' => ?_
  unfold Oper.wp
  simp [execOp, hop, hm, hx, hv, run_put ht K hh hb hk, Result.andThen]
  have h2 := hK' _ _ (h _ (setBlock_new hb) (setBlock_grown hb))
  unfold Oper.upon
  rw [hN]
  exact h2
/-- 'm[k]', behind 'at_lookup'. -/
theorem kget_event {W : World} (K : Keys P kt ek ok) (hgd : o.guard = none) (m x : Operand) (hop : o.op = Op.lookup t m x false) (hm : a.eval m = .map (some g)) (k : κ) (hk : ok k) (hx : a.eval x = ek k)
    (ht : P.underlying t = some (.map kt et)) {z : Value} (hz : (zeroValue et).run P W = .ok z W) (hh : ∀ p ∈ hist, ok p.1) (hb : W.heap[g]? = some (mobj ek ev hist)) (r : Value) (hr : ((mget hist k).map ev).getD z = r)
    (h : wpList P ops Q rest (a.put o.dst r) W) : wpList P ops Q (o :: rest) a W := by
  refine wpList_plain hgd fun K' hK' => ?_
  have e := run_get ht K hz hh hb hk false
  unfold Oper.wp
  simp [execOp, hop, hm, hx, e, hr, Result.andThen]
  exact hK' _ _ h
/-- 'v, ok := m[k]', behind 'at_lookup'. -/
theorem kget_ok_event {W : World} (K : Keys P kt ek ok) (hgd : o.guard = none) (m x : Operand) (hop : o.op = Op.lookup t m x true) (hm : a.eval m = .map (some g)) (k : κ) (hk : ok k) (hx : a.eval x = ek k)
    (ht : P.underlying t = some (.map kt et)) {z : Value} (hz : (zeroValue et).run P W = .ok z W) (hh : ∀ p ∈ hist, ok p.1) (hb : W.heap[g]? = some (mobj ek ev hist)) (r : Value) (b : Bool) (hr : ((mget hist k).map ev).getD z = r) (hbb : (mget hist k).isSome = b)
    (h : wpList P ops Q rest (a.put o.dst (.tuple #[r, .bool b])) W) : wpList P ops Q (o :: rest) a W := by
  refine wpList_plain hgd fun K' hK' => ?_
  have e := run_get ht K hz hh hb hk true
  unfold Oper.wp
  simp [execOp, hop, hm, hx, e, hr, hbb, Result.andThen]
  exact hK' _ _ h
end
/-! ### pairs of two numbers, and single numbers -/
def pairV (p : Int × Int) : Value := .agg #[.int .i64 p.1, .int .i64 p.2]
def ok64 (x : Int) : Prop := (Lit.int .i64 x).wf = true
theorem pair_keys {P : Program} {kt et : TypeId} (A : WideMaps.ArrKey P kt et 2) (he : P.underlying et = some (.int .i64)) (hsz : ∃ m, P.types.size = m + 1) : Keys P kt pairV (fun p => ok64 p.1 ∧ ok64 p.2) where
  law := Keyed.of_law A.law
  key := fun p h => ⟨_, WideMaps.keyOf_pair A he hsz h.1 h.2⟩
  inj := fun a b h => by
    obtain ⟨a1, a2⟩ := a
    obtain ⟨b1, b2⟩ := b
    unfold pairV at h
    simp at h
    exact Prod.ext h.1 h.2
theorem int_keys {P : Program} {kt : TypeId} {q : IntKind} (hk : P.underlying kt = some (.int q)) : Keys P kt (Value.int q) (fun x => (Lit.int q x).wf = true) where
  law := int_keyed hk
  key := fun k h => ⟨_, keyOf_int_mk hk h⟩
  inj := fun a b h => by injection h
end Go.Proofs.Ytiinihponcojkaa.MapKey
