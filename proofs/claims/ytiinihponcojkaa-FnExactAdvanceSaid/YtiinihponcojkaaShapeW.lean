/- (*impl.face).shape, walked: what two code points side by side become stands in the face's map. -/
import Derived.Test.YtiinihponcojkaaFace
namespace Go.Proofs.Ytiinihponcojkaa.QFnExactAdvance
open Go Go.RowKit Go.Proofs.YtiinihponcojkaaV.PrintWords Go.Proofs.YtiinihponcojkaaV.PrintLast Go.Proofs.YtiinihponcojkaaV.PrintMore Go.Proofs.Ytiinihponcojkaa.MapObj Go.Proofs.Ytiinihponcojkaa.MapKey
set_option linter.unusedVariables false
set_option linter.unusedSimpArgs false

def shapeGo (lig : Int × Int → Option Int) : Int → List Int → List Int
  | x, [] => [x]
  | x, y :: r => match lig (x, y) with
    | none => x :: shapeGo lig y r
    | some z => shapeGo lig z r
def shapeL (lig : Int × Int → Option Int) : List Int → List Int
  | [] => []
  | x :: r => shapeGo lig x r
def ligOf (l : List S84) (p : Int × Int) : Option Int := mget (hLig l l.length) p
def okRune (l : List S84) : Prop := ∀ j : Nat, j < l.length → ok64 (rd_T84 l (j : Nat)).f2
theorem hLig_rune {l : List S84} (h : okRune l) : ∀ k, k ≤ l.length → ∀ p v, mget (hLig l k) p = some v → ok64 v
  | 0, _, p, v, hp => by cases hp
  | k + 1, hk, p, v, hp => by
    unfold hLig mget at hp
    split at hp
    · obtain rfl := Option.some.inj hp
      exact h k hk
    · exact hLig_rune h k (by omega) p v hp
theorem shapeGo_len (lig : Int × Int → Option Int) : ∀ (r : List Int) (x : Int), (shapeGo lig x r).length ≤ r.length + 1
  | [], x => by simp [shapeGo]
  | y :: r, x => by
    unfold shapeGo
    split
    · have := shapeGo_len lig r y
      simp only [List.length_cons]
      omega
    · rename_i z _
      have := shapeGo_len lig r z
      simp only [List.length_cons]
      omega
/-- 'left[1:]'. -/
def tailA (A : Option Addr) (c : Nat) : Option Addr := if c = 1 then A else A.map (·.add 1)
theorem slice1_run {W : World} {a : Operand → Value} {o : Oper} {A : Option Addr} {n c : Nat} (x : Operand) (hop : o.op = Op.slice 27 x (some (.const (.int .i64 1))) none none) (hk : ∀ v, a (.const v) = v) (hx : a x = .slice A n c) (hn : 1 ≤ n) :
    (execOp a o).run Try.prog W = .ok (.value (.slice (tailA A c) (n - 1) (c - 1))) W := by
  have h1 := run_slice_l (P := Try.prog) W 27 A n c (by kernel_rfl) .i64 1 (by omega) (by omega)
  have h2 : (sizeOf (Try.prog.elem 27)).run Try.prog W = .ok 1 W := by kernel_rfl
  unfold execOp
  simp [hop, hx, hk, run_sliceAt_slice W 27 _ _ _ _ (show Try.prog.underlying 27 = some (.slice (Try.prog.elem 27)) by kernel_rfl), h1, h2, sliced, tailA, Result.andThen]
theorem R_cap {W : World} {base n cap : Nat} {ok : Nat → Prop} {A : Option Addr} {xs : List Int} (h : Kd.R (Kd.int .i64) 3 W base ok (.slice A n cap) xs) : n ≤ cap := by
  obtain ⟨_, inner, ho, _⟩ := h
  rcases ho.2 with ⟨hv, _⟩ | ⟨g', cap', cur, hv, _, hh, hc, _, hs, _⟩
  · injection hv with _ e1 e2
    omega
  · injection hv with _ e1 e2
    omega
theorem face_grown {W W1 : World} {a b c d : Int} {q4 q5 q6 : Value} {l4 : List S79} {l5 : List S81} {l6 : List S84} {gf gw ge gl : Nat} (h : Face W a b c d q4 q5 q6 l4 l5 l6 gf gw ge gl) {row : Option Nat} (hg : W.grownBy W1 row) (ht : ∀ k, row = some k → ∃ cells, W.heap[k]? = some (.cells cells 3 (0, 0))) : Face W1 a b c d q4 q5 q6 l4 l5 l6 gf gw ge gl := by
  have n1 : ∀ {g : Nat} {es : Array MapEntry} {cl : Nat}, W.heap[g]? = some (.map es cl) → some g ≠ row := fun hb e => by
    obtain ⟨cells, hc⟩ := ht _ e.symm
    rw [hc] at hb
    cases hb
  refine ⟨blk_grown h.blk hg (fun e => ?_), blk_grown h.wide hg (n1 h.wide), blk_grown h.kern hg (n1 h.kern), blk_grown h.lig hg (n1 h.lig), h.wk, h.wl, h.kl⟩
  obtain ⟨cells, hc⟩ := ht _ e.symm
  have := h.blk
  rw [hc] at this
  injection this with this
  injection this with _ this
  cases this
theorem eql_nil (w : World) (a : Option Addr) (l c : Nat) : (binOp .eql 27 (.slice a l c) (.slice none 0 0)).run Try.prog w = .ok (.bool a.isNone) w := by
  have h : (Op.equal 27 (.slice a l c) (.slice none 0 0)).run Try.prog w = .ok a.isNone w := by
    show (Op.equalIn (9999 + 1) _ _ _).run _ _ = _
    have hu := run_underlying Try.underlying27 w
    cases a <;> (unfold Op.equalIn; simp [hu])
  simp only [binOp]
  simp [h]
theorem face_far {W : World} {a b c d : Int} {q4 q5 q6 : Value} {l4 : List S79} {l5 : List S81} {l6 : List S84} {gf gw ge gl : Nat} (h : Face W a b c d q4 q5 q6 l4 l5 l6 gf gw ge gl) {g : Nat} (ht : ∃ cells, W.heap[g]? = some (.cells cells 3 (0, 0))) (off : Nat) (u : Value) : Face (W.setCell ⟨g, off, none⟩ u) a b c d q4 q5 q6 l4 l5 l6 gf gw ge gl := by
  obtain ⟨cells, hc⟩ := ht
  have n1 : ∀ {k : Nat} {es : Array MapEntry} {cl : Nat}, W.heap[k]? = some (.map es cl) → k ≠ g := fun hb => map_ne_cells hb hc
  refine FaceM.far h (fun e => ?_) (n1 h.wide) (n1 h.kern) (n1 h.lig) _ _
  have := h.blk
  rw [e, hc] at this
  injection this with this
  injection this with _ this
  cases this
theorem lig_run {w' : World} {a : Operand → Value} {o : Oper} {l6 : List S84} {gl : Nat} {p : Int × Int} (m x : Operand) (hop : o.op = Op.lookup 99 m x true) (hm : a m = .map (some gl)) (hx : a x = pairV p) (hk : okP p) (ok6 : okLig l6) (hb : w'.heap[gl]? = some (oLig l6 l6.length)) (r : Value) (b : Bool)
    (hr : ((ligOf l6 p).map (Value.int .i64)).getD (.int .i64 0) = r) (hbb : (ligOf l6 p).isSome = b) : (execOp a o).run Try.prog w' = .ok (.value (.tuple #[r, .bool b])) w' := by
  have e := run_get (et := 3) (ev := Value.int .i64) Try.underlying99 keys_pair (z := .int .i64 0) (w := w') (by kernel_rfl) (hLig_ok ok6 _ (Nat.le_refl _)) hb hk true
  have hr : ((mget (hLig l6 l6.length) p).map (Value.int .i64)).getD (.int .i64 0) = r := hr
  have hbb : (mget (hLig l6 l6.length) p).isSome = b := hbb
  unfold execOp
  simp [hop, hm, hx, e, hr, hbb, Result.andThen]
/-- What is left of the row that is eaten up from its front. -/
structure LeftI (W : World) (g : Nat) (A : Option Addr) (xs : List Int) : Prop where
  blk : ∃ cells, W.heap[g]? = some (.cells cells 3 (0, 0))
  at_ : xs ≠ [] → ∃ off, A = some ⟨g, off, none⟩ ∧ ∀ (i : Nat) (hi : i < xs.length), W.cell? ⟨g, off + i, none⟩ = some (.int .i64 xs[i])
section
variable {W W1 : World} {g off : Nat} {A : Option Addr} {x y : Int} {xs : List Int}
theorem LeftI.below (h : LeftI W g A xs) (hb : Below W.heap.size W W1) : LeftI W1 g A xs := by
  obtain ⟨⟨cells, hc⟩, ha⟩ := h
  refine ⟨⟨cells, blk_below hc hb⟩, fun hx => ?_⟩
  obtain ⟨off, e, hi⟩ := ha hx
  exact ⟨off, e, fun i h1 => pw_cell_below hb (hi i h1)⟩
theorem LeftI.grown (h : LeftI W g A xs) {row : Option Nat} (hg : W.grownBy W1 row) (hn : some g ≠ row) : LeftI W1 g A xs := by
  obtain ⟨⟨cells, hc⟩, ha⟩ := h
  have h1 := blk_grown hc hg hn
  refine ⟨⟨cells, h1⟩, fun hx => ?_⟩
  obtain ⟨off, e, hi⟩ := ha hx
  exact ⟨off, e, fun i h2 => by rw [blk_cell h1, ← blk_cell hc]; exact hi i h2⟩
theorem LeftI.tail (h : LeftI W g (some ⟨g, off, none⟩) (x :: y :: xs)) : LeftI W g (some ⟨g, off + 1, none⟩) (y :: xs) := by
  refine ⟨h.blk, fun _ => ⟨off + 1, rfl, fun i hi => ?_⟩⟩
  obtain ⟨o2, e, hi2⟩ := h.at_ (by simp)
  injection e with e
  injection e with _ e
  subst e
  have := hi2 (i + 1) (by simp at hi ⊢; omega)
  rw [show off + 1 + i = off + (i + 1) by omega, this]
  rfl
theorem LeftI.done (h : LeftI W g A xs) (A' : Option Addr) : LeftI W g A' [] := ⟨h.blk, fun hx => absurd rfl hx⟩
theorem LeftI.head (h : LeftI W g (some ⟨g, off, none⟩) (x :: xs)) : W.cell? ⟨g, off, none⟩ = some (.int .i64 x) := by
  obtain ⟨o2, e, hi2⟩ := h.at_ (by simp)
  injection e with e
  injection e with _ e
  subst e
  exact hi2 0 (by simp)
theorem LeftI.next (h : LeftI W g (some ⟨g, off, none⟩) (x :: y :: xs)) : W.cell? ⟨g, off + 1, none⟩ = some (.int .i64 y) := by
  obtain ⟨o2, e, hi2⟩ := h.at_ (by simp)
  injection e with e
  injection e with _ e
  subst e
  exact hi2 1 (by simp)
theorem LeftI.frozen (h : LeftI W g A xs) (off : Nat) : W.frozen? ⟨g, off, none⟩ = false := by
  obtain ⟨⟨cells, hc⟩, _⟩ := h
  exact blk_frozen hc off
theorem LeftI.set (h : LeftI W g (some ⟨g, off, none⟩) (x :: xs)) (u : Int) : LeftI (W.setCell ⟨g, off, none⟩ (.int .i64 u)) g (some ⟨g, off, none⟩) (u :: xs) := by
  obtain ⟨⟨cells, hc⟩, ha⟩ := h
  obtain ⟨o2, e, hi2⟩ := ha (by simp)
  injection e with e
  injection e with _ e
  subst e
  have h1 := blk_put hc off (Value.int .i64 u) rfl
  refine ⟨⟨_, h1⟩, fun _ => ⟨off, rfl, fun i hi => ?_⟩⟩
  cases i with
  | zero =>
    have := hi2 0 (by simp)
    rw [blk_cell hc] at this
    rw [blk_cell h1]
    have hlt : off < cells.size := by
      rcases Nat.lt_or_ge off cells.size with q | q
      · exact q
      · rw [Nat.add_zero, Array.getElem?_eq_none q] at this
        cases this
    rw [Nat.add_zero, Array.getElem?_setIfInBounds, if_pos rfl, if_pos hlt]
    rfl
  | succ i =>
    have := hi2 (i + 1) (by simpa using hi)
    rw [blk_cell hc] at this
    rw [blk_cell h1, Array.getElem?_setIfInBounds, if_neg (by omega), this]
    rfl
theorem LeftI.of_R {base n cap : Nat} {ok : Nat → Prop} (h : Kd.R (Kd.int .i64) 3 W base ok (.slice (some ⟨g, 0, none⟩) n cap) xs) : LeftI W g (some ⟨g, 0, none⟩) xs := by
  refine ⟨Kd.R_typed h g rfl, fun _ => ⟨0, rfl, fun i hi => ?_⟩⟩
  obtain ⟨A', c', e⟩ := Kd.R_slice h
  injection e with _ e _
  have h1 := (Kd.R_celln (0 : Int) h (i : Int) (by omega) (by omega)).1
  rw [Int.toNat_natCast] at h1
  rw [Nat.zero_add, h1]
  unfold rdOf
  rw [Int.toNat_natCast, List.getD_eq_getElem?_getD, List.getElem?_eq_getElem hi]
  rfl
end
set_option maxHeartbeats 8000000 in
set_option maxRecDepth 100000 in
theorem clone_calls (w : World) (A : Option Addr) (c : Nat) (l : List Int) (hr : Kd.C (Kd.int .i64) w A l.length l) (hc : l.length ≤ c) (hl : l.length ≤ 1048576) :
    Calls Try.prog 66 #[.slice A l.length c] w fun e w' => ∃ v, e = .returned v ∧ Kd.R (Kd.int .i64) 3 w' w.heap.size (fun _ => True) v l ∧ Below w.heap.size w w' := by
  have HR := Aside0.mk hr
  have HC := Aside0.mk hc
  have HL := Aside0.mk hl
  have HB := Aside0.mk (Below.refl w.heap.size w)
  have hnil := eql_nil
  clear hr hc hl
  cases A with
  | none =>
    have e : l = [] := by
      cases l with
      | nil => rfl
      | cons a r =>
        obtain ⟨ad, e, _⟩ := Kd.at_int HR.out 0 (by omega) (by simp)
        cases e
    subst e
    go_enter Try.func66, Try.ntmps66
    go_wp2
    go_ret
    exact ⟨_, rfl, Kd.R_nil _ _ _ _ _, HB.out⟩
  | some ad =>
    go_enter Try.func66, Try.ntmps66
    go_wp2_with (first
      | ((with_reducible refine gate_dst (N := 5) rfl ?_); refine Kd.R_lit (Kd.int .i64) _ 3 ?hg (N := 5) ?hd (xs := ([] : List Int)) (inner := []) (ok := fun _ => True) (okp := fun _ => True) ?hr ?hp (fun _ hk => hk) trivial (Below.refl _ _) (Nat.le_refl _) (by simp) ?_; (case hd => rfl); (case hg => rfl); (case hr => first | (go_simp; done) | (go_simp; rfl)); (case hp => exact Reps.none _ _); intro v5 w5 ho hb hg hat; have HO := Aside0.mk ho; have HB5 := Aside0.mk hb; clear ho hb hg hat)
      | ((with_reducible refine gate_builtin (b := .append) (xs := #[.tmp 5, .tmp 6]) rfl ?_); at_builtin; refine Kd.R_append_row (Value.int .i64) (0 : Int) (h1 := fun _ => rfl) (w0 := w) w.heap.size rfl (.tmp 5) (.tmp 6) 27 3 (.int .i64 0) 8 rfl Try.underlying27 info3 rfl (by decide) v5 [] l (some ad) l.length c (fun _ => True) rfl rfl (fun _ _ => trivial) HO.out ?aR HB5.out HB5.out.size ?aL ?_; (case aR => exact Kd.C_below HR.out HB5.out); (case aL => have := HL.out; simp only [List.length_nil]; omega); intro v1 w1 ho hb hg hat; have HO1 := Aside0.mk ho; have HB1 := Aside0.mk hb; clear ho hb hg hat))
    go_ret
    exact ⟨_, rfl, HO1.out, HB1.out⟩
set_option maxHeartbeats 8000000 in
set_option maxRecDepth 100000 in
theorem shape_calls (W : World) (a b c d : Int) (q4 q5 q6 : Value) (l4 : List S79) (l5 : List S81) (l6 : List S84) (gf gw ge gl : Nat) (A : Option Addr) (c1 : Nat) (l1 : List Int)
    (hF : Face W a b c d q4 q5 q6 l4 l5 l6 gf gw ge gl) (ok6 : okLig l6) (okr : okRune l6) (hr : Kd.C (Kd.int .i64) W A l1.length l1) (hc : l1.length ≤ c1) (hl : l1.length ≤ 1048576) (hok : ∀ x ∈ l1, ok64 x) :
    Calls Try.prog 33 #[.pointer (some ⟨gf, 0, none⟩), .slice A l1.length c1] W fun e w' => ∃ v, e = .returned v ∧ Kd.R (Kd.int .i64) 3 w' W.heap.size (fun _ => True) v (shapeL (ligOf l6) l1) ∧ Below W.heap.size W w' := by
  have HF := Aside0.mk hF
  have OK6 := Aside0.mk ok6
  have OKR := Aside0.mk okr
  have HR := Aside0.mk hr
  have HC := Aside0.mk hc
  have HL := Aside0.mk hl
  have HOK := Aside0.mk hok
  have hu103 := Try.underlying103
  clear hF ok6 okr hr hc hl hok
  cases l1 with
  | nil =>
    go_enter Try.func33, Try.ntmps33
    go_wp2_with (first
      | ((with_reducible refine gate_dst (N := 9) rfl ?_); refine Kd.R_lit (Kd.int .i64) _ 3 ?hg (N := 9) ?hd (xs := ([] : List Int)) (inner := []) (ok := fun _ => True) (okp := fun _ => True) ?hr ?hp (fun _ hk => hk) trivial (Below.refl _ _) (Nat.le_refl _) (by simp) ?_; (case hd => rfl); (case hg => rfl); (case hr => first | (go_simp; done) | (go_simp; rfl)); (case hp => exact Reps.none _ _); intro v9 w9 ho hb hg hat; have HO := Aside0.mk ho; have HB := Aside0.mk hb; clear ho hb hg hat)
      | ((with_reducible refine gate_dst (N := 11) rfl ?_); (refine goesL_ (some 11) rfl rfl Try.func66 (by kernel_rfl) rfl #[.slice A ([] : List Int).length c1] rfl (by (try simp only [List.map_toArray, List.map_cons, List.map_nil]); first | done | rfl) ?_; refine (clone_calls _ A c1 [] (Kd.C_below HR.out HB.out) HC.out (by simp)).mono ?_; rintro e_ w2 ⟨v, rfl, hv, hb⟩; refine ⟨_, rfl, ?_⟩; obtain ⟨Av, cv, ev⟩ := Kd.R_slice hv; subst ev; have HO2 := Aside0.mk (Kd.R_below HO.out hb); have HB2 := Aside0.mk (below_step HB.out hb); clear hb hv)))
    go_loopg [5, 6] 0 (fun kq v5 v6 w' => ∃ (A' : Option Addr) (c' : Nat), v6 = .slice A' ([] : List Int).length c' ∧ Aside0 (Kd.R (Kd.int .i64) 3 w' W.heap.size (fun _ => True) v5 []) ∧ Aside0 (Below W.heap.size W w'))
    case atStart => exact ⟨_, _, rfl, HO2, HB2⟩
    case round =>
      clear HO2 HB2
      obtain ⟨A', c', rfl, HO, HB⟩ := hrel
      go_wp2
      go_ret
      exact ⟨_, rfl, HO.out, HB.out⟩
  | cons x0 r0 =>
    go_enter Try.func33, Try.ntmps33
    go_wp2_with (first
      | ((with_reducible refine gate_dst (N := 9) rfl ?_); refine Kd.R_lit (Kd.int .i64) _ 3 ?hg (N := 9) ?hd (xs := ([] : List Int)) (inner := []) (ok := fun _ => True) (okp := fun _ => True) ?hr ?hp (fun _ hk => hk) trivial (Below.refl _ _) (Nat.le_refl _) (by simp) ?_; (case hd => rfl); (case hg => rfl); (case hr => first | (go_simp; done) | (go_simp; rfl)); (case hp => exact Reps.none _ _); intro v9 w9 ho hb hg hat; have HO := Aside0.mk ho; have HB := Aside0.mk hb; clear ho hb hg hat)
      | ((with_reducible refine gate_dst (N := 11) rfl ?_); (refine goesL_ (some 11) rfl rfl Try.func66 (by kernel_rfl) rfl #[.slice A (x0 :: r0).length c1] rfl (by (try simp only [List.map_toArray, List.map_cons, List.map_nil]); first | done | rfl) ?_; refine (clone_calls _ A c1 (x0 :: r0) (Kd.C_below HR.out HB.out) HC.out HL.out).mono ?_; rintro e_ w2 ⟨v, rfl, hv, hb⟩; refine ⟨_, rfl, ?_⟩; obtain ⟨g, cv, ev, hgb, hgs, _⟩ := Kd.R_form hv (by simp); subst ev; have HCV := Aside0.mk (show (x0 :: r0).length ≤ cv from R_cap hv); have HG := Aside0.mk (show W.heap.size ≤ g from Nat.le_trans HB.out.size hgb); have HGS := Aside0.mk (show g < w2.heap.size from hgs); have HLF := Aside0.mk (LeftI.of_R hv); have HO2 := Aside0.mk (show Kd.R (Kd.int .i64) 3 w2 W.heap.size (fun k => k ≠ g) v9 [] from Kd.R_of_own (Kd.own_of_R (Kd.R_below HO.out hb)) (fun k hk e => by have := Kd.R_lt HO.out k hk; omega)); have HB2 := Aside0.mk (below_step HB.out hb); have HF2 := Aside0.mk (show Face w2 a b c d q4 q5 q6 l4 l5 l6 gf gw ge gl from (HF.out.below HB.out).below hb); clear hb hv hgb hgs HO HB HF)))
    go_loopg [5, 6] (x0 :: r0).length (fun kq v5 v6 w' => ∃ (out xs : List Int) (A' : Option Addr) (n c' : Nat), v6 = .slice A' n c' ∧ Aside0 (n = xs.length ∧ xs.length = kq ∧ n ≤ c') ∧ Aside0 (out ++ shapeL (ligOf l6) xs = shapeL (ligOf l6) (x0 :: r0)) ∧ Aside0 (∀ y ∈ xs, ok64 y) ∧ Aside0 (LeftI w' g A' xs) ∧ Aside0 (Kd.R (Kd.int .i64) 3 w' W.heap.size (fun k => k ≠ g) v5 out) ∧ Aside0 (Face w' a b c d q4 q5 q6 l4 l5 l6 gf gw ge gl ∧ g < w'.heap.size) ∧ Aside0 (Below W.heap.size W w'))
    case atStart => exact ⟨[], x0 :: r0, _, _, _, rfl, ⟨rfl, rfl, HCV.out⟩, ⟨by rw [List.nil_append]⟩, HOK, HLF, HO2, ⟨HF2.out, HGS.out⟩, HB2⟩
    case round =>
      clear HLF HO2 HF2 HB2
      obtain ⟨out, xs, A', n, c', rfl, HX, HE, HOK', HLF, HO, HF, HB⟩ := hrel
      have HTL := Aside0.mk (show (shapeL (ligOf l6) (x0 :: r0)).length ≤ 1048576 from by have h1 := shapeGo_len (ligOf l6) r0 x0; have h2 := HL.out; simp only [List.length_cons] at h2; show (shapeGo _ _ _).length ≤ _; omega)
      cases xs with
      | nil =>
        have hn : n = 0 := HX.out.1
        subst hn
        go_wp2
        go_ret
        refine ⟨_, rfl, ?_, HB.out⟩
        have := HE.out
        rw [shapeL, List.append_nil] at this
        rw [← this]
        exact Kd.R_mono HO.out (fun _ _ => trivial)
      | cons x r =>
        have hn0 : decide (0 < (n : Int)) = true := decide_eq_true (by have := HX.out.1; simp at this; omega)
        have hn1 : decide (0 < n) = true := decide_eq_true (by have := HX.out.1; simp at this; omega)
        obtain ⟨m, hm⟩ : ∃ m, m = gk := ⟨_, rfl⟩
        have HM := Aside0.mk (show (x :: r).length = m from by rw [hm]; exact HX.out.2.1)
        have HMG := Aside0.mk hm
        clear hm
        go_wp2
        clear hn0 hn1
        go_loopg [6] r.length (fun kq v6 w' => ∃ (x : Int) (r : List Int) (A' : Option Addr) (n c' : Nat), v6 = .slice A' n c' ∧ Aside0 (n = (x :: r).length ∧ r.length = kq ∧ n ≤ c' ∧ r.length + 1 ≤ m) ∧ Aside0 (out ++ shapeGo (ligOf l6) x r = shapeL (ligOf l6) (x0 :: r0)) ∧ Aside0 (∀ y ∈ x :: r, ok64 y) ∧ Aside0 (LeftI w' g A' (x :: r)) ∧ Aside0 (Kd.R (Kd.int .i64) 3 w' W.heap.size (fun k => k ≠ g) u5 out) ∧ Aside0 (Face w' a b c d q4 q5 q6 l4 l5 l6 gf gw ge gl ∧ g < w'.heap.size) ∧ Aside0 (Below W.heap.size W w'))
        case atStart => exact ⟨x, r, _, _, _, rfl, ⟨HX.out.1, rfl, HX.out.2.2, by have := HM.out; simp only [List.length_cons] at this; omega⟩, HE, HOK', HLF, HO, HF, HB⟩
        case round =>
          clear HX HE HOK' HLF HO HF HB HM
          obtain ⟨x, r, A', n, c', rfl, HX, HE, HOK', HLF, HO, HF, HB⟩ := hrel
          have HN := Aside0.mk (show 1 ≤ n from by have := HX.out.1; simp at this; omega)
          have HLN := Aside0.mk (show out.length ≤ 1048576 from by have h1 := congrArg List.length HE.out; rw [List.length_append] at h1; have := HTL.out; omega)
          have p0 : ((0 : Int) < (n : Int)) = True := eq_true (by have := HN.out; omega)
          have pn0 : (0 < n) = True := eq_true (by have := HN.out; omega)
          obtain ⟨off, eA⟩ : ∃ off, A' = some ⟨g, off, none⟩ := by obtain ⟨off, e, _⟩ := HLF.out.at_ (by simp); exact ⟨off, e⟩
          subst eA
          cases r with
          | nil =>
            have hn : n = 1 := HX.out.1
            have n1 : decide ((1 : Int) < (n : Int)) = false := decide_eq_false (by omega)
            have n2 : decide (1 < n) = false := decide_eq_false (by omega)
            have z0 : wr.cell? ⟨g, off, none⟩ = some (.int .i64 x) := HLF.out.head
            have HNN := Aside0.mk hn
            clear hn
            go_wp2_with (first
        | ((with_reducible refine gate_builtin (b := .append) (xs := #[.tmp 40, .tmp 44]) rfl ?_); at_builtin; refine Kd.R_append (Kd.int .i64) (w0 := W) W.heap.size rfl (.tmp 40) (.tmp 44) 27 3 (.int .i64 0) 8 rfl Try.underlying27 info3 rfl (by decide) (by omega) u5 out x [.int .i64 x] (fun k => k ≠ g) (fun _ => False) rfl rfl ?aP (fun _ hk => hk.elim) ?aF ?aO ?aB ?aS ?aL ?_; (case aP => exact rfl); (case aB => exact HB.out); (case aF => exact (fun k hk e => by have := HF.out.2; omega)); (case aO => exact HO.out); (case aS => exact HB.out.size); (case aL => have := HLN.out; omega); intro v9 w9 ho hb hg hat; have HO9 := Aside0.mk ho; have HB9 := Aside0.mk hb; have HF9 := Aside0.mk (show Face w9 a b c d q4 q5 q6 l4 l5 l6 gf gw ge gl ∧ g < w9.heap.size from ⟨face_grown HF.out.1 hg (fun k hk => Kd.R_typed HO.out k hk), Nat.lt_of_lt_of_le HF.out.2 hg.size⟩); have HLF9 := Aside0.mk (HLF.out.grown hg (fun e => HO.out.1 g e.symm rfl)); clear ho hb hg hat)
        | ((with_reducible refine gate_dst (N := 47) rfl ?_); refine Kd.event_run (v := .slice (tailA (some ⟨g, off, none⟩) c') (n - 1) (c' - 1)) (w1 := w9) rfl ?hs47a ?_; (case hs47a => exact slice1_run _ rfl (fun _ => rfl) rfl HN.out)))
            go_roundg 0
            case measure => have := HX.out; have := HMG.out; omega
            case rel => exact ⟨out ++ [x], [], _, _, _, rfl, ⟨by have := HNN.out; show n - 1 = 0; omega, rfl, by have := HX.out.2.2.1; omega⟩, ⟨by have := HE.out; rw [shapeGo] at this; rw [shapeL, List.append_nil]; exact this⟩, ⟨fun y hy => by cases hy⟩, ⟨HLF9.out.done _⟩, HO9, HF9, HB9⟩
          | cons y r =>
            have n1 : decide ((1 : Int) < (n : Int)) = true := decide_eq_true (by have := HX.out.1; simp at this; omega)
            have n2 : decide (1 < n) = true := decide_eq_true (by have := HX.out.1; simp at this; omega)
            have p1 : ((1 : Int) < (n : Int)) = True := eq_true (by have := HX.out.1; simp at this; omega)
            have pn1 : (1 < n) = True := eq_true (by have := HX.out.1; simp at this; omega)
            have z0 : wr.cell? ⟨g, off, none⟩ = some (.int .i64 x) := HLF.out.head
            have z1 : wr.cell? ⟨g, off + 1, none⟩ = some (.int .i64 y) := HLF.out.next
            have zl : wr.cell? ⟨gf, 9, none⟩ = some (.map (some gl)) := (blk_cell HF.out.1.blk 9).trans rfl
            have HKO := Aside0.mk (show okP (x, y) from ⟨HOK'.out x (by simp), HOK'.out y (by simp)⟩)
            have HTA := Aside0.mk (show tailA (some ⟨g, off, none⟩) c' = some ⟨g, off + 1, none⟩ from by have h1 := HX.out.1; have h2 := HX.out.2.2.1; simp only [List.length_cons] at h1; unfold tailA; rw [if_neg (by omega)]; rfl)
            cases hl : ligOf l6 (x, y) with
            | none =>
              have HLG := Aside0.mk hl
              clear hl
              go_wp2
              refine start_ (n := 17) (S := fun w' => w'.cell? ⟨gf, 9, none⟩ = some (.map (some gl)) ∧ w'.cell? ⟨g, off, none⟩ = some (.int .i64 x) ∧ w'.cell? ⟨g, off + 1, none⟩ = some (.int .i64 y) ∧ w'.heap[gl]? = some (oLig l6 l6.length)) (ds := []) #[false, false, false, false, false, false, false, false, false, false, false, false, false, false, false, false, false] (by kernel_rfl) rfl rfl ⟨zl, z0, z1, HF.out.1.lig⟩ (fun hHeld => ?_)
              have n0_ := Aside0.mk (below_drew1 HB.out)
              have n1_ := Aside0.mk (show Face wr.drew a b c d q4 q5 q6 l4 l5 l6 gf gw ge gl ∧ g < wr.drew.heap.size from ⟨HF.out.1.below (below_drew1 (Below.refl _ _)), HF.out.2⟩)
              have n2_ := Aside0.mk (HLF.out.below (below_drew1 (Below.refl _ _)))
              have n3_ := Aside0.mk (Kd.R_drew HO.out)
              clear z0 z1 zl HB HF HLF HO
              have HB := n0_
              have HF := n1_
              have HLF := n2_
              have HO := n3_
              clear n0_ n1_ n2_ n3_
              generalize wr.drew = wr at HB HF HLF HO hHeld ⊢
              refine pure_ (i := 0) (N := (some 19)) (v := ?_) (a' := ?_) #[true, false, false, false, false, false, false, false, false, false, false, false, false, false, false, false, false] rfl rfl (by kernel_rfl) (fun _ _ _ h => h) (Or.inl ⟨by rfl, ?_⟩) ?_ ?_
              rotate_left
              · intro w'
                go_simp
                with_reducible rfl
              rotate_left
              · simp only [Act.put, List.setIfInBounds_toArray, List.set_cons_zero, List.set_cons_succ, i64_w, i32_w]
                rfl
              refine pure_ (i := 1) (N := (some 20)) (v := ?_) (a' := ?_) #[true, true, false, false, false, false, false, false, false, false, false, false, false, false, false, false, false] rfl rfl (by kernel_rfl) (fun _ _ _ h => h) (Or.inl ⟨by rfl, ?_⟩) ?_ ?_
              rotate_left
              · intro w'
                go_simp
                with_reducible rfl
              rotate_left
              · simp only [Act.put, List.setIfInBounds_toArray, List.set_cons_zero, List.set_cons_succ, i64_w, i32_w]
                rfl
              refine pure_ (i := 2) (N := (some 21)) (v := ?_) (a' := ?_) #[true, true, true, false, false, false, false, false, false, false, false, false, false, false, false, false, false] rfl rfl (by kernel_rfl) (fun _ _ _ h => h) (Or.inl ⟨by rfl, ?_⟩) ?_ ?_
              rotate_left
              · intro w'
                go_simp
                with_reducible rfl
              rotate_left
              · simp only [Act.put, List.setIfInBounds_toArray, List.set_cons_zero, List.set_cons_succ, i64_w, i32_w]
                rfl
              refine take_ (i := 3) (N := (some 22)) (v := ?_) (a' := ?_) #[true, true, true, true, false, false, false, false, false, false, false, false, false, false, false, false, false] rfl rfl (by kernel_rfl) (fun _ _ _ h => h) (Or.inl ⟨by rfl, ?_⟩) hHeld ?_ ?_
              rotate_left
              · rintro w' ⟨s0, s1, s2, s3⟩
                go_simp
                with_reducible rfl
              rotate_left
              · simp only [Act.put, List.setIfInBounds_toArray, List.set_cons_zero, List.set_cons_succ, i64_w, i32_w]
                rfl
              refine pure_ (i := 4) (N := (some 23)) (v := ?_) (a' := ?_) #[true, true, true, true, true, false, false, false, false, false, false, false, false, false, false, false, false] rfl rfl (by kernel_rfl) (fun _ _ _ h => h) (Or.inl ⟨by rfl, ?_⟩) ?_ ?_
              rotate_left
              · intro w'
                go_simp
                with_reducible rfl
              rotate_left
              · simp only [Act.put, List.setIfInBounds_toArray, List.set_cons_zero, List.set_cons_succ, i64_w, i32_w]
                rfl
              refine pure_ (i := 5) (N := (some 24)) (v := ?_) (a' := ?_) #[true, true, true, true, true, true, false, false, false, false, false, false, false, false, false, false, false] rfl rfl (by kernel_rfl) (fun _ _ _ h => h) (Or.inl ⟨by rfl, ?_⟩) ?_ ?_
              rotate_left
              · intro w'
                go_simp
                with_reducible rfl
              rotate_left
              · simp only [Act.put, List.setIfInBounds_toArray, List.set_cons_zero, List.set_cons_succ, i64_w, i32_w]
                rfl
              refine take_ (i := 6) (N := (some 25)) (v := ?_) (a' := ?_) #[true, true, true, true, true, true, true, false, false, false, false, false, false, false, false, false, false] rfl rfl (by kernel_rfl) (fun _ _ _ h => h) (Or.inl ⟨by rfl, ?_⟩) hHeld ?_ ?_
              rotate_left
              · rintro w' ⟨s0, s1, s2, s3⟩
                go_simp
                with_reducible rfl
              rotate_left
              · simp only [Act.put, List.setIfInBounds_toArray, List.set_cons_zero, List.set_cons_succ, i64_w, i32_w]
                rfl
              refine pure_ (i := 7) (N := (some 26)) (v := ?_) (a' := ?_) #[true, true, true, true, true, true, true, true, false, false, false, false, false, false, false, false, false] rfl rfl (by kernel_rfl) (fun _ _ _ h => h) (Or.inl ⟨by rfl, ?_⟩) ?_ ?_
              rotate_left
              · intro w'
                go_simp
                with_reducible rfl
              rotate_left
              · simp only [Act.put, List.setIfInBounds_toArray, List.set_cons_zero, List.set_cons_succ, i64_w, i32_w]
                rfl
              refine pure_ (i := 8) (N := (some 27)) (v := ?_) (a' := ?_) #[true, true, true, true, true, true, true, true, true, false, false, false, false, false, false, false, false] rfl rfl (by kernel_rfl) (fun _ _ _ h => h) (Or.inl ⟨by rfl, ?_⟩) ?_ ?_
              rotate_left
              · intro w'
                go_simp
                with_reducible rfl
              rotate_left
              · simp only [Act.put, List.setIfInBounds_toArray, List.set_cons_zero, List.set_cons_succ, i64_w, i32_w]
                rfl
              refine take_ (i := 9) (N := (some 28)) (v := ?_) (a' := ?_) #[true, true, true, true, true, true, true, true, true, true, false, false, false, false, false, false, false] rfl rfl (by kernel_rfl) (fun _ _ _ h => h) (Or.inl ⟨by rfl, ?_⟩) hHeld ?_ ?_
              rotate_left
              · rintro w' ⟨s0, s1, s2, s3⟩
                go_simp
                with_reducible rfl
              rotate_left
              · simp only [Act.put, List.setIfInBounds_toArray, List.set_cons_zero, List.set_cons_succ, i64_w, i32_w]
                rfl
              refine pure_ (i := 10) (N := (some 29)) (v := ?_) (a' := ?_) #[true, true, true, true, true, true, true, true, true, true, true, false, false, false, false, false, false] rfl rfl (by kernel_rfl) (fun _ _ _ h => h) (Or.inl ⟨by rfl, ?_⟩) ?_ ?_
              rotate_left
              · intro w'
                go_simp
                with_reducible rfl
              rotate_left
              · simp only [Act.put, List.setIfInBounds_toArray, List.set_cons_zero, List.set_cons_succ, i64_w, i32_w]
                rfl
              refine take_ (i := 11) (N := (some 30)) (v := .tuple #[.int .i64 0, .bool false]) (a' := ?_) #[true, true, true, true, true, true, true, true, true, true, true, true, false, false, false, false, false] rfl rfl (by kernel_rfl) (fun _ _ _ h => h) (Or.inl ⟨by rfl, ?_⟩) hHeld ?_ ?_
              · rintro w' ⟨s0, s1, s2, s3⟩
                exact lig_run (p := (x, y)) _ _ rfl rfl rfl HKO.out OK6.out s3 _ _ (by rw [HLG.out]; rfl) (by rw [HLG.out]; rfl)
              rotate_left
              · simp only [Act.put, List.setIfInBounds_toArray, List.set_cons_zero, List.set_cons_succ, i64_w, i32_w]
                rfl
              refine pure_ (i := 12) (N := (some 18)) (v := ?_) (a' := ?_) #[true, true, true, true, true, true, true, true, true, true, true, true, true, false, false, false, false] rfl rfl (by kernel_rfl) (fun _ _ _ h => h) (Or.inl ⟨by rfl, ?_⟩) ?_ ?_
              rotate_left
              · intro w'
                go_simp
                with_reducible rfl
              rotate_left
              · simp only [Act.put, List.setIfInBounds_toArray, List.set_cons_zero, List.set_cons_succ, i64_w, i32_w]
                rfl
              refine pure_ (i := 13) (N := (some 31)) (v := ?_) (a' := ?_) #[true, true, true, true, true, true, true, true, true, true, true, true, true, true, false, false, false] rfl rfl (by kernel_rfl) (fun _ _ _ h => h) (Or.inl ⟨by rfl, ?_⟩) ?_ ?_
              rotate_left
              · intro w'
                go_simp
                with_reducible rfl
              rotate_left
              · simp only [Act.put, List.setIfInBounds_toArray, List.set_cons_zero, List.set_cons_succ, i64_w, i32_w]
                rfl
              refine pure_ (i := 14) (N := (some 32)) (v := ?_) (a' := ?_) #[true, true, true, true, true, true, true, true, true, true, true, true, true, true, true, false, false] rfl rfl (by kernel_rfl) (fun _ _ _ h => h) (Or.inl ⟨by rfl, ?_⟩) ?_ ?_
              rotate_left
              · intro w'
                go_simp
                with_reducible rfl
              rotate_left
              · simp only [Act.put, List.setIfInBounds_toArray, List.set_cons_zero, List.set_cons_succ, i64_w, i32_w]
                rfl
              refine pure_ (i := 15) (N := (some 7)) (v := ?_) (a' := ?_) #[true, true, true, true, true, true, true, true, true, true, true, true, true, true, true, true, false] rfl rfl (by kernel_rfl) (fun _ _ _ h => h) (Or.inl ⟨by rfl, ?_⟩) ?_ ?_
              rotate_left
              · intro w'
                go_simp
                with_reducible rfl
              rotate_left
              · simp only [Act.put, List.setIfInBounds_toArray, List.set_cons_zero, List.set_cons_succ, i64_w, i32_w]
                rfl
              refine pure_ (i := 16) (N := (some 8)) (v := ?_) (a' := ?_) #[true, true, true, true, true, true, true, true, true, true, true, true, true, true, true, true, true] rfl rfl (by kernel_rfl) (fun _ _ _ h => h) (Or.inl ⟨by rfl, ?_⟩) ?_ ?_
              rotate_left
              · intro w'
                go_simp
                with_reducible rfl
              rotate_left
              · simp only [Act.put, List.setIfInBounds_toArray, List.set_cons_zero, List.set_cons_succ, i64_w, i32_w]
                rfl
              refine done_ (by kernel_rfl) ?_
              have z0 : wr.cell? ⟨g, off, none⟩ = some (.int .i64 x) := HLF.out.head
              go_wp2_with (first
        | ((with_reducible refine gate_builtin (b := .append) (xs := #[.tmp 40, .tmp 44]) rfl ?_); at_builtin; refine Kd.R_append (Kd.int .i64) (w0 := W) W.heap.size rfl (.tmp 40) (.tmp 44) 27 3 (.int .i64 0) 8 rfl Try.underlying27 info3 rfl (by decide) (by omega) u5 out x [.int .i64 x] (fun k => k ≠ g) (fun _ => False) rfl rfl ?aP (fun _ hk => hk.elim) ?aF ?aO ?aB ?aS ?aL ?_; (case aP => exact rfl); (case aB => exact HB.out); (case aF => exact (fun k hk e => by have := HF.out.2; omega)); (case aO => exact HO.out); (case aS => exact HB.out.size); (case aL => have := HLN.out; omega); intro v9 w9 ho hb hg hat; have HO9 := Aside0.mk ho; have HB9 := Aside0.mk hb; have HF9 := Aside0.mk (show Face w9 a b c d q4 q5 q6 l4 l5 l6 gf gw ge gl ∧ g < w9.heap.size from ⟨face_grown HF.out.1 hg (fun k hk => Kd.R_typed HO.out k hk), Nat.lt_of_lt_of_le HF.out.2 hg.size⟩); have HLF9 := Aside0.mk (HLF.out.grown hg (fun e => HO.out.1 g e.symm rfl)); clear ho hb hg hat)
        | ((with_reducible refine gate_dst (N := 47) rfl ?_); refine Kd.event_run (v := .slice (tailA (some ⟨g, off, none⟩) c') (n - 1) (c' - 1)) (w1 := w9) rfl ?hs47b ?_; (case hs47b => exact slice1_run _ rfl (fun _ => rfl) rfl HN.out)))
              go_roundg (r.length + 1)
              case measure => have := HX.out; have := HMG.out; simp only [List.length_cons] at *; omega
              case rel => exact ⟨out ++ [x], y :: r, _, _, _, rfl, ⟨by have := HX.out.1; simp only [List.length_cons] at this ⊢; omega, by simp, by have := HX.out.2.2.1; omega⟩, ⟨by have := HE.out; rw [shapeGo, HLG.out] at this; rw [shapeL, List.append_assoc]; exact this⟩, ⟨fun y' hy => HOK'.out y' (List.mem_cons_of_mem _ hy)⟩, ⟨by rw [HTA.out]; exact HLF9.out.tail⟩, HO9, HF9, HB9⟩
            | some z =>
              have HLG := Aside0.mk hl
              clear hl
              go_wp2
              refine start_ (n := 17) (S := fun w' => w'.cell? ⟨gf, 9, none⟩ = some (.map (some gl)) ∧ w'.cell? ⟨g, off, none⟩ = some (.int .i64 x) ∧ w'.cell? ⟨g, off + 1, none⟩ = some (.int .i64 y) ∧ w'.heap[gl]? = some (oLig l6 l6.length)) (ds := []) #[false, false, false, false, false, false, false, false, false, false, false, false, false, false, false, false, false] (by kernel_rfl) rfl rfl ⟨zl, z0, z1, HF.out.1.lig⟩ (fun hHeld => ?_)
              have n0_ := Aside0.mk (below_drew1 HB.out)
              have n1_ := Aside0.mk (show Face wr.drew a b c d q4 q5 q6 l4 l5 l6 gf gw ge gl ∧ g < wr.drew.heap.size from ⟨HF.out.1.below (below_drew1 (Below.refl _ _)), HF.out.2⟩)
              have n2_ := Aside0.mk (HLF.out.below (below_drew1 (Below.refl _ _)))
              have n3_ := Aside0.mk (Kd.R_drew HO.out)
              clear z0 z1 zl HB HF HLF HO
              have HB := n0_
              have HF := n1_
              have HLF := n2_
              have HO := n3_
              clear n0_ n1_ n2_ n3_
              generalize wr.drew = wr at HB HF HLF HO hHeld ⊢
              refine pure_ (i := 0) (N := (some 19)) (v := ?_) (a' := ?_) #[true, false, false, false, false, false, false, false, false, false, false, false, false, false, false, false, false] rfl rfl (by kernel_rfl) (fun _ _ _ h => h) (Or.inl ⟨by rfl, ?_⟩) ?_ ?_
              rotate_left
              · intro w'
                go_simp
                with_reducible rfl
              rotate_left
              · simp only [Act.put, List.setIfInBounds_toArray, List.set_cons_zero, List.set_cons_succ, i64_w, i32_w]
                rfl
              refine pure_ (i := 1) (N := (some 20)) (v := ?_) (a' := ?_) #[true, true, false, false, false, false, false, false, false, false, false, false, false, false, false, false, false] rfl rfl (by kernel_rfl) (fun _ _ _ h => h) (Or.inl ⟨by rfl, ?_⟩) ?_ ?_
              rotate_left
              · intro w'
                go_simp
                with_reducible rfl
              rotate_left
              · simp only [Act.put, List.setIfInBounds_toArray, List.set_cons_zero, List.set_cons_succ, i64_w, i32_w]
                rfl
              refine pure_ (i := 2) (N := (some 21)) (v := ?_) (a' := ?_) #[true, true, true, false, false, false, false, false, false, false, false, false, false, false, false, false, false] rfl rfl (by kernel_rfl) (fun _ _ _ h => h) (Or.inl ⟨by rfl, ?_⟩) ?_ ?_
              rotate_left
              · intro w'
                go_simp
                with_reducible rfl
              rotate_left
              · simp only [Act.put, List.setIfInBounds_toArray, List.set_cons_zero, List.set_cons_succ, i64_w, i32_w]
                rfl
              refine take_ (i := 3) (N := (some 22)) (v := ?_) (a' := ?_) #[true, true, true, true, false, false, false, false, false, false, false, false, false, false, false, false, false] rfl rfl (by kernel_rfl) (fun _ _ _ h => h) (Or.inl ⟨by rfl, ?_⟩) hHeld ?_ ?_
              rotate_left
              · rintro w' ⟨s0, s1, s2, s3⟩
                go_simp
                with_reducible rfl
              rotate_left
              · simp only [Act.put, List.setIfInBounds_toArray, List.set_cons_zero, List.set_cons_succ, i64_w, i32_w]
                rfl
              refine pure_ (i := 4) (N := (some 23)) (v := ?_) (a' := ?_) #[true, true, true, true, true, false, false, false, false, false, false, false, false, false, false, false, false] rfl rfl (by kernel_rfl) (fun _ _ _ h => h) (Or.inl ⟨by rfl, ?_⟩) ?_ ?_
              rotate_left
              · intro w'
                go_simp
                with_reducible rfl
              rotate_left
              · simp only [Act.put, List.setIfInBounds_toArray, List.set_cons_zero, List.set_cons_succ, i64_w, i32_w]
                rfl
              refine pure_ (i := 5) (N := (some 24)) (v := ?_) (a' := ?_) #[true, true, true, true, true, true, false, false, false, false, false, false, false, false, false, false, false] rfl rfl (by kernel_rfl) (fun _ _ _ h => h) (Or.inl ⟨by rfl, ?_⟩) ?_ ?_
              rotate_left
              · intro w'
                go_simp
                with_reducible rfl
              rotate_left
              · simp only [Act.put, List.setIfInBounds_toArray, List.set_cons_zero, List.set_cons_succ, i64_w, i32_w]
                rfl
              refine take_ (i := 6) (N := (some 25)) (v := ?_) (a' := ?_) #[true, true, true, true, true, true, true, false, false, false, false, false, false, false, false, false, false] rfl rfl (by kernel_rfl) (fun _ _ _ h => h) (Or.inl ⟨by rfl, ?_⟩) hHeld ?_ ?_
              rotate_left
              · rintro w' ⟨s0, s1, s2, s3⟩
                go_simp
                with_reducible rfl
              rotate_left
              · simp only [Act.put, List.setIfInBounds_toArray, List.set_cons_zero, List.set_cons_succ, i64_w, i32_w]
                rfl
              refine pure_ (i := 7) (N := (some 26)) (v := ?_) (a' := ?_) #[true, true, true, true, true, true, true, true, false, false, false, false, false, false, false, false, false] rfl rfl (by kernel_rfl) (fun _ _ _ h => h) (Or.inl ⟨by rfl, ?_⟩) ?_ ?_
              rotate_left
              · intro w'
                go_simp
                with_reducible rfl
              rotate_left
              · simp only [Act.put, List.setIfInBounds_toArray, List.set_cons_zero, List.set_cons_succ, i64_w, i32_w]
                rfl
              refine pure_ (i := 8) (N := (some 27)) (v := ?_) (a' := ?_) #[true, true, true, true, true, true, true, true, true, false, false, false, false, false, false, false, false] rfl rfl (by kernel_rfl) (fun _ _ _ h => h) (Or.inl ⟨by rfl, ?_⟩) ?_ ?_
              rotate_left
              · intro w'
                go_simp
                with_reducible rfl
              rotate_left
              · simp only [Act.put, List.setIfInBounds_toArray, List.set_cons_zero, List.set_cons_succ, i64_w, i32_w]
                rfl
              refine take_ (i := 9) (N := (some 28)) (v := ?_) (a' := ?_) #[true, true, true, true, true, true, true, true, true, true, false, false, false, false, false, false, false] rfl rfl (by kernel_rfl) (fun _ _ _ h => h) (Or.inl ⟨by rfl, ?_⟩) hHeld ?_ ?_
              rotate_left
              · rintro w' ⟨s0, s1, s2, s3⟩
                go_simp
                with_reducible rfl
              rotate_left
              · simp only [Act.put, List.setIfInBounds_toArray, List.set_cons_zero, List.set_cons_succ, i64_w, i32_w]
                rfl
              refine pure_ (i := 10) (N := (some 29)) (v := ?_) (a' := ?_) #[true, true, true, true, true, true, true, true, true, true, true, false, false, false, false, false, false] rfl rfl (by kernel_rfl) (fun _ _ _ h => h) (Or.inl ⟨by rfl, ?_⟩) ?_ ?_
              rotate_left
              · intro w'
                go_simp
                with_reducible rfl
              rotate_left
              · simp only [Act.put, List.setIfInBounds_toArray, List.set_cons_zero, List.set_cons_succ, i64_w, i32_w]
                rfl
              refine take_ (i := 11) (N := (some 30)) (v := .tuple #[.int .i64 z, .bool true]) (a' := ?_) #[true, true, true, true, true, true, true, true, true, true, true, true, false, false, false, false, false] rfl rfl (by kernel_rfl) (fun _ _ _ h => h) (Or.inl ⟨by rfl, ?_⟩) hHeld ?_ ?_
              · rintro w' ⟨s0, s1, s2, s3⟩
                exact lig_run (p := (x, y)) _ _ rfl rfl rfl HKO.out OK6.out s3 _ _ (by rw [HLG.out]; rfl) (by rw [HLG.out]; rfl)
              rotate_left
              · simp only [Act.put, List.setIfInBounds_toArray, List.set_cons_zero, List.set_cons_succ, i64_w, i32_w]
                rfl
              refine pure_ (i := 12) (N := (some 18)) (v := ?_) (a' := ?_) #[true, true, true, true, true, true, true, true, true, true, true, true, true, false, false, false, false] rfl rfl (by kernel_rfl) (fun _ _ _ h => h) (Or.inl ⟨by rfl, ?_⟩) ?_ ?_
              rotate_left
              · intro w'
                go_simp
                with_reducible rfl
              rotate_left
              · simp only [Act.put, List.setIfInBounds_toArray, List.set_cons_zero, List.set_cons_succ, i64_w, i32_w]
                rfl
              refine pure_ (i := 13) (N := (some 31)) (v := ?_) (a' := ?_) #[true, true, true, true, true, true, true, true, true, true, true, true, true, true, false, false, false] rfl rfl (by kernel_rfl) (fun _ _ _ h => h) (Or.inl ⟨by rfl, ?_⟩) ?_ ?_
              rotate_left
              · intro w'
                go_simp
                with_reducible rfl
              rotate_left
              · simp only [Act.put, List.setIfInBounds_toArray, List.set_cons_zero, List.set_cons_succ, i64_w, i32_w]
                rfl
              refine pure_ (i := 14) (N := (some 32)) (v := ?_) (a' := ?_) #[true, true, true, true, true, true, true, true, true, true, true, true, true, true, true, false, false] rfl rfl (by kernel_rfl) (fun _ _ _ h => h) (Or.inl ⟨by rfl, ?_⟩) ?_ ?_
              rotate_left
              · intro w'
                go_simp
                with_reducible rfl
              rotate_left
              · simp only [Act.put, List.setIfInBounds_toArray, List.set_cons_zero, List.set_cons_succ, i64_w, i32_w]
                rfl
              refine pure_ (i := 15) (N := (some 7)) (v := ?_) (a' := ?_) #[true, true, true, true, true, true, true, true, true, true, true, true, true, true, true, true, false] rfl rfl (by kernel_rfl) (fun _ _ _ h => h) (Or.inl ⟨by rfl, ?_⟩) ?_ ?_
              rotate_left
              · intro w'
                go_simp
                with_reducible rfl
              rotate_left
              · simp only [Act.put, List.setIfInBounds_toArray, List.set_cons_zero, List.set_cons_succ, i64_w, i32_w]
                rfl
              refine pure_ (i := 16) (N := (some 8)) (v := ?_) (a' := ?_) #[true, true, true, true, true, true, true, true, true, true, true, true, true, true, true, true, true] rfl rfl (by kernel_rfl) (fun _ _ _ h => h) (Or.inl ⟨by rfl, ?_⟩) ?_ ?_
              rotate_left
              · intro w'
                go_simp
                with_reducible rfl
              rotate_left
              · simp only [Act.put, List.setIfInBounds_toArray, List.set_cons_zero, List.set_cons_succ, i64_w, i32_w]
                rfl
              refine done_ (by kernel_rfl) ?_
              have z0 := HLF.out.frozen (off + 1)
              obtain ⟨uc, hx1⟩ : ∃ u, wr.cell? ⟨g, off + 1, none⟩ = some u := ⟨_, HLF.out.next⟩
              go_wp2_with (first
        | ((with_reducible refine gate_dst (N := 36) rfl ?_); refine Kd.event_run (v := .slice (some ⟨g, off + 1, none⟩) (n - 1) (c' - 1)) (w1 := wr) rfl ?hs36 ?_; (case hs36 => rw [← HTA.out]; exact slice1_run _ rfl (fun _ => rfl) rfl HN.out); have p2 : ((0 : Int) < ((n - 1 : Nat) : Int)) = True := eq_true (by have := HX.out.1; simp only [List.length_cons] at this; omega); have pn2 : (0 < n - 1) = True := eq_true (by have := HX.out.1; simp only [List.length_cons] at this; omega))
        | ((with_reducible refine gate_store (t := 3) (p := 39) rfl ?_); refine store_event (t := 3) (p := 39) (v := ?vos) (w1 := (wr.setCell ⟨g, off + 1, none⟩ (.int .i64 z))) ?hg ?ho ?hn ?hr ?_; (case ho => rfl); (case hg => rfl); (case hn => rfl); (case hr => first | (go_simp; done) | (go_simp; rfl)); intro w9 hw; have HB9 := Aside0.mk (show Below W.heap.size W w9 from by rw [hw]; exact below_set HB.out HG.out); have HLF9 := Aside0.mk (show LeftI w9 g (some ⟨g, off + 1, none⟩) (z :: r) from by rw [hw]; exact HLF.out.tail.set z); have HF9 := Aside0.mk (show Face w9 a b c d q4 q5 q6 l4 l5 l6 gf gw ge gl ∧ g < w9.heap.size from by rw [hw]; exact ⟨face_far HF.out.1 HLF.out.blk _ _, by have := HF.out.2; simpa [World.setCell] using this⟩); have HO9 := Aside0.mk (show Kd.R (Kd.int .i64) 3 w9 W.heap.size (fun k => k ≠ g) u5 out from by rw [hw]; exact Kd.R_far HO.out (fun k hk => hk) _); clear hw z0 hx1))
              go_roundg r.length
              case measure => have := HX.out; simp only [List.length_cons] at *; omega
              case rel => exact ⟨z, r, _, _, _, rfl, ⟨by have := HX.out.1; simp only [List.length_cons] at this ⊢; omega, rfl, by have := HX.out.2.2.1; omega, by have := HX.out.2.2.2; simp only [List.length_cons] at this; omega⟩, ⟨by have := HE.out; rw [shapeGo, HLG.out] at this; exact this⟩, ⟨fun y' hy => (List.mem_cons.1 hy).elim (fun e => by rw [e]; exact hLig_rune OKR.out _ (Nat.le_refl _) (x, y) z HLG.out) (fun hy => HOK'.out y' (List.mem_cons_of_mem _ (List.mem_cons_of_mem _ hy)))⟩, HLF9, HO9, HF9, HB9⟩
end Go.Proofs.Ytiinihponcojkaa.QFnExactAdvance
