/- How an argument that is read as data opens into the kinds of the printed walks. -/
import Derived.Test.YtjojmfhgfeflnaaGreatDoorVAll
import Derived.ChangeArms
import Derived.ChangeSlices
import Derived.WideShapes
import Derived.DataElems
namespace Go.Proofs.YtjojmfhgfeflnaaGreatDoor.Opn
open Go Go.ChangeShapes Go.WideShapes Go.RowKit Go.Proofs.YtjojmfhgfeflnaaGreatDoorV.PrintWords Go.Proofs.YtjojmfhgfeflnaaGreatDoorV.PrintLast Go.Proofs.YtjojmfhgfeflnaaGreatDoorV.PrintMore
set_option linter.unusedVariables false
set_option linter.unusedSimpArgs false

/-- Whatever reads as data of type t is of the kind d, and well formed. -/
structure Opens {α : Type} (P : Program) (t : TypeId) (d : Kd α) (wf : α → Prop) : Prop where
  sz : P.cellsOf t = d.sz
  op : ∀ {H : Type} {enc : TypeId × Value → H} {w : World} {fuel : Nat} {cs : List Value} {x : DataW H × List MemPlace},
    DataW.trod enc P w 0 (fun _ => true) true fuel t cs = some x → ∃ a, d.K w a cs ∧ wf a

structure OpensF {α : Type} (P : Program) (fs : List Field) (off : Nat) (d : Kd α) (wf : α → Prop) : Prop where
  op : ∀ {H : Type} {enc : TypeId × Value → H} {w : World} {n : Nat} {cs : List Value}, cs.length = off + d.sz →
    (∀ f ∈ fs, ∃ y, DataW.trod enc P w 0 (fun _ => true) true n f.type ((cs.drop f.offset).take (P.cellsOf f.type)) = some y) → ∃ a, d.K w a (cs.drop off) ∧ wf a

variable {P : Program}

theorem opens_int {t : TypeId} {k : IntKind} (ht : P.underlying t = some (.int k)) (hc : P.cellsOf t = 1) : Opens P t (Kd.int k) (fun n => (Lit.int k n).wf = true) :=
  ⟨hc, fun h => by
    obtain ⟨n, rfl, _, hw⟩ := DataW.trod_int ht h
    exact ⟨n, rfl, hw⟩⟩

theorem opens_bool {t : TypeId} (ht : P.underlying t = some .bool) (hc : P.cellsOf t = 1) : Opens P t Kd.bool (fun _ => True) :=
  ⟨hc, fun h => by
    obtain ⟨n, rfl, _⟩ := DataW.trod_bool ht h
    exact ⟨n, rfl, trivial⟩⟩

theorem opens_string {t : TypeId} (ht : P.underlying t = some .string) (hc : P.cellsOf t = 1) : Opens P t Kd.string (fun s => s.size ≤ maxLen) :=
  ⟨hc, fun h => by
    obtain ⟨n, rfl, _, hw⟩ := DataW.trod_string ht h
    exact ⟨n, rfl, hw⟩⟩

/-- A list of answers, place by place. -/
theorem choose_list {α : Type} (n : Nat) (R : Nat → α → Prop) (h : ∀ i, i < n → ∃ a, R i a) : ∃ xs : List α, xs.length = n ∧ ∀ j p, xs[j]? = some p → R j p := by
  induction n with
  | zero => exact ⟨[], rfl, fun j p h => by simp at h⟩
  | succ n ih =>
    obtain ⟨xs, hl, hx⟩ := ih (fun i hi => h i (by omega))
    obtain ⟨a, ha⟩ := h n (by omega)
    refine ⟨xs ++ [a], by simp [hl], fun j p hp => ?_⟩
    by_cases hj : j < xs.length
    · rw [List.getElem?_append_left hj] at hp
      exact hx j p hp
    · rw [List.getElem?_append_right (by omega)] at hp
      by_cases e : j - xs.length = 0
      · rw [e] at hp
        simp at hp
        have : j = n := by omega
        subst this
        rw [← hp]
        exact ha
      · obtain ⟨m, hm⟩ : ∃ m, j - xs.length = m + 1 := ⟨j - xs.length - 1, by omega⟩
        rw [hm] at hp
        simp at hp

theorem cell_of_cells? {w : World} {base : Nat} {a : Addr} {n : Nat} {cs : List Value} (h : w.cells? base a n = some cs) : cs.length = n ∧ ∀ (i : Nat) (u : Value), cs[i]? = some u → w.cell? (a.add i) = some u := by
  obtain ⟨_, hl, hc⟩ := World.cells?_some h
  refine ⟨hl, fun i u hu => ?_⟩
  have hi : i < n := by
    rw [← hl]
    exact (List.getElem?_eq_some_iff.1 hu).1
  rw [hc i hi]
  exact hu

theorem opens_slice {α : Type} {t e : TypeId} {d : Kd α} {wf : α → Prop} (q : Nat) (ht : P.underlying t = some (.slice e)) (hc : P.cellsOf t = 1) (o : Opens P e d wf) :
    Opens P t (Kd.slice q d) (fun xs => xs.length ≤ maxLen ∧ ∀ x ∈ xs, wf x) :=
  ⟨hc, fun {H enc w fuel cs x} h => by
    rcases DataW.trod_slice ht h with ⟨rfl, _⟩ | ⟨a, len, cap, elems, rest, n, _, rfl, _, hb, hl, hm, hlen, hel, _, _⟩
    · exact ⟨[], ⟨none, 0, rfl, Nat.le_refl _, rfl, by simp, fun h => absurd h (by simp)⟩, by simp, fun _ h => by cases h⟩
    · have step : ∀ i, i < len → ∃ p : α, (∃ c, c.length = d.sz ∧ d.K w p c ∧ ∀ (k : Nat) (u : Value), c[k]? = some u → w.cell? (a.add (i * d.sz + k)) = some u) ∧ wf p := by
        intro i hi
        have hy := hel i hi
        rw [List.getElem?_eq_getElem (by omega)] at hy
        obtain ⟨cs', hcs, hy'⟩ := Option.bind_eq_some_iff.1 hy
        obtain ⟨p, hp, hwf⟩ := o.op hy'
        obtain ⟨hcl, hcc⟩ := cell_of_cells? hcs
        refine ⟨p, ⟨cs', by rw [hcl, o.sz], hp, fun k u hu => ?_⟩, hwf⟩
        have := hcc k u hu
        rw [o.sz] at this
        rw [Addr.add_add] at this
        exact this
      obtain ⟨xs, hxl, hx⟩ := choose_list len _ step
      subst hxl
      refine ⟨xs, ⟨some a, cap, rfl, hl, rfl, by unfold maxLen at hm; omega, fun _ => ⟨a, rfl, fun j p hp => (hx j p hp).1⟩⟩, by omega, fun y hy => ?_⟩
      obtain ⟨j, hj⟩ := List.getElem?_of_mem hy
      exact (hx j y hj).2⟩

theorem opensF_one {α : Type} {f : Field} {off : Nat} {d : Kd α} {wf : α → Prop} (hf : f.offset = off) (o : Opens P f.type d wf) : OpensF P [f] off d wf :=
  ⟨fun {H enc w n cs} hl h => by
    obtain ⟨y, hy⟩ := h f (by simp)
    rw [hf, o.sz, List.take_of_length_le (by simp; omega)] at hy
    exact o.op hy⟩

theorem opensF_cons {α β : Type} {f : Field} {fs : List Field} {off : Nat} {d0 : Kd α} {d1 : Kd β} {wf0 : α → Prop} {wf1 : β → Prop} (hf : f.offset = off) (o : Opens P f.type d0 wf0)
    (r : OpensF P fs (off + d0.sz) d1 wf1) : OpensF P (f :: fs) off (Kd.pair d0 d1) (fun x => wf0 x.1 ∧ wf1 x.2) :=
  ⟨fun {H enc w n cs} hl h => by
    obtain ⟨y, hy⟩ := h f (by simp)
    rw [hf, o.sz] at hy
    obtain ⟨a, ha, hwa⟩ := o.op hy
    have hl' : cs.length = (off + d0.sz) + d1.sz := by
      have : cs.length = off + (d0.sz + d1.sz) := hl
      omega
    obtain ⟨b, hb, hwb⟩ := r.op hl' (fun g hg => h g (List.mem_cons_of_mem _ hg))
    refine ⟨(a, b), ⟨_, _, ?_, ha, hb⟩, hwa, hwb⟩
    rw [← List.drop_drop, List.take_append_drop]⟩

theorem opens_struct {α : Type} {t : TypeId} {fs : Array Field} {d : Kd α} {wf : α → Prop} (ht : P.underlying t = some (.struct fs)) (hc : P.cellsOf t = d.sz) (r : OpensF P fs.toList 0 d wf) : Opens P t d wf :=
  ⟨hc, fun {H enc w fuel cs x} h => by
    obtain ⟨xs, n, _, _, hl, hxl, hx⟩ := DataW.trod_struct ht h
    obtain ⟨a, ha, hw⟩ := r.op (n := n) (enc := enc) (w := w) (cs := cs) (by rw [hl, hc]; omega) (fun f hf => by
      obtain ⟨i, hi⟩ := List.getElem?_of_mem hf
      rw [Array.getElem?_toList] at hi
      have := hx i f hi
      have hlt : i < xs.length := by
        rw [hxl]
        exact (Array.getElem?_eq_some_iff.1 hi).1
      exact ⟨xs[i], by rw [this, List.getElem?_eq_getElem hlt]⟩)
    rw [List.drop_zero] at ha
    exact ⟨a, ha, hw⟩⟩

theorem opens_iso {α β : Type} {t : TypeId} {d : Kd α} {wf : α → Prop} (o : Opens P t d wf) (f : β → α) (g : α → β) (hfg : ∀ a, f (g a) = a) : Opens P t (Kd.iso d f) (fun b => wf (f b)) :=
  ⟨o.sz, fun h => by
    obtain ⟨a, ha, hw⟩ := o.op h
    refine ⟨g a, ?_, ?_⟩
    · show d.K _ (f (g a)) _
      rw [hfg]
      exact ha
    · show wf (f (g a))
      rw [hfg]
      exact hw⟩

end Go.Proofs.YtjojmfhgfeflnaaGreatDoor.Opn
