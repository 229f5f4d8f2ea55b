/- laws.markTree, and what its caller keeps. -/
import Derived.Test.YtjghahkecglgdaaMarkNode
namespace Go.Proofs.Ytjghahkecglgdaa.QFnExactLiveOf
open Go Go.RowKit Go.Proofs.YtjghahkecglgdaaV.PrintWords Go.Proofs.YtjghahkecglgdaaV.PrintLast Go.Proofs.YtjghahkecglgdaaV.PrintMore
set_option linter.unusedVariables false
set_option linter.unusedSimpArgs false

/-- The blocks of the types that a tree leads to. -/
def KT (W w' : World) : Prop := Kept W w' (fun k => ∃ q, q ∈ 78 :: k78.E ∧ ∃ cells, W.heap[k]? = some (.cells cells q (0, 0)))
theorem kt_row {W w' : World} {base : Nat} {ok : Nat → Prop} {v : Value} {xs : List Int} (h : (Kd.int .i64).R 3 W base ok v xs) (hk : KT W w') : (Kd.int .i64).R 3 w' base ok v xs :=
  Kd.R_mono (Kd.R_kept (Kd.R_bound h) hk (fun k h1 h2 => by
    obtain ⟨_, _, _, q, hq, c, e⟩ := h1
    obtain ⟨q', hq', c', e'⟩ := h2
    have := e.symm.trans e'
    injection this with this
    injection this with _ this
    subst this
    have hq : q ∈ 3 :: (Kd.int .i64).E := hq
    have : ∀ q, q ∈ 3 :: (Kd.int .i64).E → q ∈ 78 :: k78.E → False := by
      intro q h1 h2
      have h1 : q ∈ [3] := h1
      have h2 : q ∈ [78, 166] := h2
      simp at h1 h2
      omega
    exact this q hq hq')) (fun _ h => h.1)
theorem kt_blk {W w' : World} {g t : Nat} {cs : Array Value} (h : W.heap[g]? = some (.cells cs t (0, 0))) (hk : KT W w') (ht : ¬ t ∈ [78, 166]) : w'.heap[g]? = some (.cells cs t (0, 0)) :=
  (hk.2 g (blk_lt h) (fun ⟨q, hq, c, e⟩ => by
    rw [h] at e
    injection e with e
    injection e with _ e
    subst e
    exact ht hq)).trans h

set_option maxHeartbeats 8000000 in
set_option maxRecDepth 100000 in
theorem mark_call (k : Nat) (A : Option Addr) (n c : Nat) (l : List S78) (a1 r : Int) (w W : World) (ok : Nat → Prop) (hB : Below w.heap.size w W) (ho : Kd.S k78 78 W w.heap.size ok (.slice A n c) l) (h : markF k l a1 = some r) :
    Calls Try.prog 16 #[.agg #[.slice A n c], .int .i64 a1] W fun e w' => e = .returned (.int .i64 r) ∧ Below w.heap.size w w' ∧ KT W w' := by
  have hu37 := Try.underlying37
  have H := Aside0.mk h
  have HO := Aside0.mk (Kd.S_mono (Kd.S_bound ho) (fun k h => h.2.2.2))
  have HB := Aside0.mk hB
  have HW := Aside0.mk (Below.refl W.heap.size W)
  clear h ho hB
  go_enter Try.func16, Try.ntmps16
  go_wp2_with (first | ((with_reducible refine gate_dst (N := 2) rfl ?_); refine box_event ?hg (N := 2) ?hd (cs := #[.slice A n c]) (t := 37) ?hr ?_; (case hd => rfl); (case hg => rfl); (case hr => first | (go_simp; done) | (go_simp; rfl)); intro gb hg w1 hbox hb; have n0_ := Aside0.mk (below_step HB.out hb); have n1_ := Aside0.mk (Kd.S_below HO.out hb); have n2_ := Aside0.mk (below_step HW.out hb); clear HB HO HW; have HB := n0_; have HO := n1_; have HW := n2_; have hc0 : w1.cell? ⟨gb, 0, none⟩ = some (.slice A n c) := (blk_cell hbox 0).trans rfl; have hf0 := blk_frozen hbox 0; clear n0_ n1_ n2_ hb hbox hg) | ((with_reducible refine gate_dst (N := 8) rfl ?_); refine goesL_ (some 8) rfl rfl Try.func38 (by kernel_rfl) rfl #[.slice A n c, .int .i64 a1] rfl (by (try simp only [List.map_toArray, List.map_cons, List.map_nil]); first | done | rfl | (simp only [List.length_drop, List.length_take]; rfl)) ?_; refine (laws_markNodeS.calls k _ _ l a1 r w _ HB.out HO.out H.out).mono ?_; rintro e w3 ⟨rfl, hb, hk⟩; refine ⟨_, rfl, ?_⟩; have n0_ := Aside0.mk hb; have n1_ := Aside0.mk (show KT W w3 from Kept.then_ (Kept.of_below HW.out _) hk (fun _ h_ => .inl h_)); clear HB HO HW hb hk; have HB := n0_; have HK := n1_; clear n0_ n1_))
  go_ret
  exact ⟨rfl, HB.out, HK.out⟩

theorem markF.mono : ∀ (l : List S78) (a : Int) (k : Nat), LeO (markF k l a) (markF (k + 1) l a)
  | [], a, k => fun r h => h
  | x :: t, a, k => by
    intro r h
    unfold markF at h ⊢
    obtain ⟨t1, h1, h⟩ := Option.bind_eq_some_iff.mp h
    obtain ⟨p, h2, h⟩ := Option.bind_eq_some_iff.mp h
    obtain ⟨t2, h3, h⟩ := Option.bind_eq_some_iff.mp h
    rw [laws_markText.mono _ k _ h1, Option.bind_some, laws_markAttrS.mono _ _ k _ h2, Option.bind_some, laws_markText.mono _ k _ h3, Option.bind_some]
    exact markF.mono t _ k _ h
def laws_markTree.f (k : Nat) (l0 : List (S78)) (a1 : Int) : Option (Int) := markF k l0 a1
theorem laws_markTree.mono : ∀ a0 a1 k, LeO (laws_markTree.f k a0 a1) (laws_markTree.f (k + 1) a0 a1) := fun a0 a1 k => markF.mono a0 a1 k

end Go.Proofs.Ytjghahkecglgdaa.QFnExactLiveOf
