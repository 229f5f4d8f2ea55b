/- spec.l4Kids and spec.l4Node, walked: the bytes behind which they write are the call's own. -/
import Derived.Test.YtjojmfhgfeflnaaGreatDoorEmitF
import Derived.Lib.OthersKept
import Derived.StillTailTactics
namespace Go.Proofs.YtjojmfhgfeflnaaGreatDoor.QFnExactInner
open Go Go.RowKit Go.Proofs.YtjojmfhgfeflnaaGreatDoorV.PrintWords Go.Proofs.YtjojmfhgfeflnaaGreatDoorV.PrintLast Go.Proofs.YtjojmfhgfeflnaaGreatDoorV.PrintMore Go.Proofs.YtjojmfhgfeflnaaGreatDoor.Val Go.Proofs.YtjojmfhgfeflnaaGreatDoor.TreeIx Go.Proofs.YtjojmfhgfeflnaaGreatDoor.Trie
set_option linter.unusedVariables false
set_option linter.unusedSimpArgs false

abbrev OwnB (W : World) (base : Nat) (v : Value) (xs : List Int) : Prop := W.ownsRow base 5 1 v xs.length (nums .u8 xs)
abbrev KeptU (W W1 : World) : Prop := Lib.OthersKept 5 none W W1
theorem OwnB.below {W W1 : World} {base : Nat} {v : Value} {xs : List Int} (h : OwnB W base v xs) (hb : Below W.heap.size W W1) : OwnB W1 base v xs :=
  own_move h (fun k hk => hb.block k (by obtain ⟨cells, hc⟩ := own_typed h k hk; exact blk_lt hc))
theorem kept_below {W W1 : World} (hb : Below W.heap.size W W1) : KeptU W W1 := fun k o hk _ _ => (hb.block k (blk_lt hk)).trans hk
theorem kept_grown {W W1 : World} {base : Nat} {v : Value} {xs : List Int} (h : OwnB W base v xs) (hg : W.grownBy W1 v.ownBlock) : KeptU W W1 :=
  (Lib.OthersKept.refl 5 none W).grown hg (fun g e => by obtain ⟨cells, hc⟩ := own_typed h g e; exact ⟨cells, _, hc⟩)
theorem KeptU.blk {W W1 : World} {g t : Nat} {cs : Array Value} {fr : Nat × Nat} (h : KeptU W W1) (hb : W.heap[g]? = some (.cells cs t fr)) (ht : t ≠ 5) : W1.heap[g]? = some (.cells cs t fr) :=
  h g _ hb (by simp) (fun c fz e => by injection e with _ e2; exact ht e2)
theorem bytes_app (a b : ByteArray) : bytesOf (a ++ b) = bytesOf a ++ bytesOf b := by
  unfold bytesOf
  rw [show (a ++ b).data.toList = a.data.toList ++ b.data.toList from by simp, List.map_append]
theorem bytes_nil : bytesOf (⟨#[]⟩ : ByteArray) = [] := rfl
/-- What a call of l4Node at i in a node of the name ab does: it ends at m, and u is written. -/
def NodeC (w0 : World) (ad : Addr) (c0 : Nat) (l : List S57) (i : Nat) (ab : ByteArray) (m : Nat) (u : ByteArray) : Prop :=
  ∀ (W : World) (v : Value) (xs : List Int), Below w0.heap.size w0 W → OwnB W w0.heap.size v xs → xs.length + u.size ≤ 3000000000000 →
    Calls Tryz.prog 25 #[.slice (some ad) l.length c0, .int .i64 (i : Int), .string ab, v] W fun e W' => ∃ v', e = .returned (.tuple #[v', .int .i64 (m : Int)]) ∧ OwnB W' w0.heap.size v' (xs ++ bytesOf u) ∧ Below w0.heap.size w0 W' ∧ KeptU W W'
def KidsC (w0 : World) (ad : Addr) (c0 : Nat) (l : List S57) (i m : Nat) (t : ByteArray) : Prop :=
  ∀ (W : World) (v : Value) (xs : List Int), Below w0.heap.size w0 W → OwnB W w0.heap.size v xs → xs.length + t.size ≤ 3000000000000 →
    Calls Tryz.prog 14 #[.slice (some ad) l.length c0, .int .i64 (i : Int), v] W fun e W' => ∃ v', e = .returned (.tuple #[v', .int .i64 (m : Int)]) ∧ OwnB W' w0.heap.size v' (xs ++ bytesOf t) ∧ Below w0.heap.size w0 W' ∧ KeptU W W'
/-- q nodes, one behind the other. -/
def SeqC (P : Nat → ByteArray → Nat → ByteArray → Prop) (n : Nat) (ab : ByteArray) : Nat → Nat → Nat → ByteArray → Prop
  | 0, i, e, s => i = e ∧ s = ⟨#[]⟩
  | q + 1, i, e, s => ∃ m u s', P i ab m u ∧ i < n ∧ SeqC P n ab q m e s' ∧ s = u ++ s'
theorem ti (i : Nat) (h : i ≤ 4000) : wrap64 ((i : Int) + 1) = ((i + 1 : Nat) : Int) := by unfold wrap64; omega
theorem tj (i : Nat) (h : i ≤ 1048576) : wrap64 ((i : Int) + 1) = ((i + 1 : Nat) : Int) := by unfold wrap64; omega
set_option maxHeartbeats 8000000 in
set_option maxRecDepth 100000 in
theorem kids_calls (w0 : World) (ad : Addr) (c0 : Nat) (l : List S57) (hr : Kd.C k57 w0 (some ad) l.length l) (h4 : l.length ≤ 4000) (i m : Nat) (t : ByteArray) (hi : i < l.length) (hk : 0 ≤ (rd_T57 l (i : Nat)).f5) (hkk : kdOf l i ≤ 4000)
    (hS : SeqC (NodeC w0 ad c0 l) l.length (rd_T57 l (i : Nat)).f2 (kdOf l i) (i + 1) m t) : KidsC w0 ad c0 l i m t := by
  intro W v xs hb ho hl
  obtain ⟨ad', A3, c3, e0, x0, x1, x2, x3, x4, x5, _⟩ := at_T57 hr (i : Int) (by omega) (by omega)
  cases e0
  rw [Int.toNat_natCast] at x2 x5
  replace x2 := (hb.cell (World.block_lt_of_cell? w0 _ x2)).trans x2
  replace x5 := (hb.cell (World.block_lt_of_cell? w0 _ x5)).trans x5
  have p5 : (0 ≤ (i : Int)) = True := eq_true (by omega)
  have q5 : ((i : Int) < (l.length : Int)) = True := eq_true (by omega)
  have e5 : (rd_T57 l (i : Nat)).f5 = ((kdOf l i : Nat) : Int) := by unfold kdOf; omega
  have e5' : (rd_T57 l (i : Int)).f5 = ((kdOf l i : Nat) : Int) := e5
  rw [e5'] at x5
  obtain ⟨K, eK⟩ : ∃ K, K = kdOf l i := ⟨_, rfl⟩
  obtain ⟨nm, enm⟩ : ∃ nm, nm = (rd_T57 l (i : Int)).f2 := ⟨_, rfl⟩
  have hS' : SeqC (NodeC w0 ad c0 l) l.length nm K (i + 1) m t := by rw [enm, eK]; exact hS
  rw [← eK] at x5
  rw [← enm] at x2
  have hw := ti i (by omega)
  have HS := Aside0.mk hS'
  have KK := Aside0.mk (show K ≤ 4000 from by rw [eK]; exact hkk)
  have HB := Aside0.mk hb
  have HO := Aside0.mk ho
  have HL := Aside0.mk hl
  have HK := Aside0.mk (kept_below (Below.refl W.heap.size W))
  have H4 := Aside0.mk h4
  have HI := Aside0.mk hi
  clear hkk hS hS' hb ho hl e5 e5' eK enm x0 x1 x3 x4 hk hr h4 hi
  go_enter Tryz.func14, Tryz.ntmps14
  go_wp2_with (fail)
  clear x2 x5 hw p5 q5
  go_loopg [1, 2, 10] K (fun kq v1 v2 v10 w' => ∃ (c j : Nat) (xs' : List Int) (t' : ByteArray), v1 = .int .i64 (c : Int) ∧ v10 = .int .i64 (j : Int) ∧ Aside0 (j + kq = K) ∧ Aside0 (SeqC (NodeC w0 ad c0 l) l.length nm kq c m t') ∧ Aside0 (OwnB w' w0.heap.size v2 xs') ∧ Aside0 (xs' ++ bytesOf t' = xs ++ bytesOf t) ∧ Aside0 (Below w0.heap.size w0 w') ∧ Aside0 (KeptU W w') ∧ Aside0 (K ≤ 1048576))
  case atStart => exact ⟨i + 1, 0, xs, t, congrArg (Value.int .i64) (ti i (by have := H4.out; have := HI.out; omega)), rfl, ⟨Nat.zero_add _⟩, HS, HO, ⟨rfl⟩, HB, HK, ⟨Nat.le_trans KK.out (by decide)⟩⟩
  case round =>
    clear HS HO HB HK
    obtain ⟨c, j, xs', t', rfl, rfl, HJ, HS, HO, HE, HB, HK, KM⟩ := hrel
    cases gk with
    | zero =>
      obtain ⟨rfl, rfl⟩ := HS.out
      have hj : j = K := HJ.out
      have dj : decide ((j : Int) < (K : Int)) = false := decide_eq_false (by omega)
      have dj2 : decide (j < K) = false := decide_eq_false (by omega)
      clear hj
      go_wp2_with (fail)
      go_ret2
      exact ⟨_, rfl, by rw [← HE.out, bytes_nil, List.append_nil]; exact HO.out, HB.out, HK.out⟩
    | succ d =>
      obtain ⟨m1, u, s', hP, hc, hS, rfl⟩ := HS.out
      have hj : j < K := by have := HJ.out; omega
      have dj : decide ((j : Int) < (K : Int)) = true := decide_eq_true (by omega)
      have dj2 : decide (j < K) = true := decide_eq_true hj
      have HP := Aside0.mk hP
      have HS2 := Aside0.mk hS
      have hz : xs'.length + (u ++ s').size = xs.length + t.size := by
        have h := congrArg List.length HE.out
        rw [List.length_append, List.length_append, bytesOf_length, bytesOf_length] at h
        exact h
      have HZ := Aside0.mk (show xs'.length + u.size ≤ 3000000000000 from by have := HL.out; rw [ByteArray.size_append] at hz; omega)
      have hw := tj j (by have := KM.out; omega)
      clear hP hS hj hz hc HS
      go_wp2_with (first
        | ((with_reducible refine gate_dst (N := 33) rfl ?_); (refine goesL_ (some 33) rfl rfl Tryz.func25 (by kernel_rfl) rfl #[.slice (some ad) l.length c0, .int .i64 (c : Int), .string nm, u2] rfl (by (try simp only [List.map_toArray, List.map_cons, List.map_nil]); first | done | rfl) ?_; refine (HP.out _ u2 xs' HB.out HO.out HZ.out).mono ?_; rintro e_ w5 ⟨v', rfl, ho, hb, hk⟩; refine ⟨_, rfl, ?_⟩; have HB5 := Aside0.mk hb; have HO5 := Aside0.mk ho; have HK5 := Aside0.mk (HK.out.trans hk); clear ho hb hk HB HO HK)))
      go_roundg d
      case measure => omega
      case rel => exact ⟨m1, j + 1, xs' ++ bytesOf u, s', rfl, congrArg (Value.int .i64) hw, ⟨by have := HJ.out; omega⟩, HS2, HO5, ⟨by rw [← HE.out, bytes_app, List.append_assoc]⟩, HB5, HK5, KM⟩
theorem attN_mono (l : List S77) : ∀ (a b : Nat), a ≤ b → (attN l a).size ≤ (attN l b).size := by
  intro a b h
  induction b with
  | zero => obtain rfl : a = 0 := by omega
            exact Nat.le_refl _
  | succ b ih =>
    by_cases e : a = b + 1
    · subst e; exact Nat.le_refl _
    · refine Nat.le_trans (ih (by omega)) ?_
      show _ ≤ (attN l b ++ attE (rd_T77 l (b : Int))).size
      rw [ByteArray.size_append]
      omega
theorem append_str_step {P : Program} {ops : Array Oper} {o : Oper} {a : Act} {Q : Exit → Act → World → Prop} {Kc : Act → World → Prop} {w0 W : World} (base : Nat) (hw : Region.wanted o (yielded ops a.tmps) = true) (s x : Operand) (t u e : TypeId)
    (ho : o.op = .call { callee := .builtin .append, args := #[s, x], argTypes := #[t, u] })
    (ht : P.underlying t = some (.slice e)) (hu : P.underlying u = some .string) (hinfo : (P.info? e).map (fun i => (i.zero, i.size, i.bytes)) = some (some (.int .u8 0), 1, 1))
    (v : Value) (xs : List Int) (y : ByteArray) (hs : a.eval s = v) (hx : a.eval x = .string y)
    (HO : W.ownsRow base e 1 v xs.length (nums .u8 xs)) (HB : Below base w0 W) (hbase : base ≤ W.heap.size) (hl : xs.length + y.size ≤ 140737488355328)
    (h : ∀ v1 w1, w1.ownsRow base e 1 v1 (xs ++ bytesOf y).length (nums .u8 (xs ++ bytesOf y)) → Below base w0 w1 → W.grownBy w1 v.ownBlock → Kc (a.put o.dst v1) w1) :
    if Region.wanted o (yielded ops a.tmps) = true then Oper.wp P o a W Kc Q else Kc (a.put o.dst undef) W := by
  rw [if_pos hw]
  obtain ⟨i0, hi, hzz⟩ := Option.map_eq_some_iff.1 hinfo
  simp only [Prod.mk.injEq] at hzz
  obtain ⟨hz0, hz1, hz2⟩ := hzz
  obtain ⟨v', w', hr, h2, h3, h4⟩ := Lib.run_append_own_string (P := P) W base t u o.type e i0 ht hu hi hz0 hz1 hz2 v xs.length (nums .u8 xs) HO y (by simp only [maxLen]; omega) hl hbase
  unfold Oper.wp execOp
  simp only [ho, resolve, invoke, builtin, Sem.run_bind, Sem.run_pure, Result.andThen_ok, List.map_toArray, List.map_cons, List.map_nil, hs, hx, hr]
  have hl2 : (xs ++ bytesOf y).length = xs.length + y.size := by rw [List.length_append, bytesOf_length]
  have hc : nums .u8 (xs ++ bytesOf y) = nums .u8 xs ++ Lib.strCells y := by
    rw [nums_append]
    congr 1
    simp [nums, bytesOf, Lib.strCells]
  exact h v' w' (by rw [hl2, hc]; exact h2) (HB.grown h3 hbase (own_base HO)) h3
set_option maxHeartbeats 8000000 in
set_option maxRecDepth 100000 in
theorem node_calls (w0 : World) (ad : Addr) (c0 : Nat) (l : List S57) (hr : Kd.C k57 w0 (some ad) l.length l) (hc : l.length ≤ c0) (R : Right l) (Fi : Fine l) (i m : Nat) (ab t : ByteArray) (h0 : 0 < i) (hi : i < l.length)
    (hf : Fits (kdOf l) l.length (i + 1) (kdOf l i) m) (hK : KidsC w0 ad c0 l i m t) : NodeC w0 ad c0 l i ab m (nodeS (rd_T57 l (i : Nat)) ab t) := by
  intro W v xs hb ho hl
  obtain ⟨ad', A3, c3, e0, x0, x1, x2, x3, x4, x5, hc3, hC3⟩ := at_T57 hr (i : Int) (by omega) (by omega)
  cases e0
  rw [Int.toNat_natCast] at x0 x1 x2 x3 x4 x5
  replace x0 := (hb.cell (World.block_lt_of_cell? w0 _ x0)).trans x0
  replace x1 := (hb.cell (World.block_lt_of_cell? w0 _ x1)).trans x1
  replace x2 := (hb.cell (World.block_lt_of_cell? w0 _ x2)).trans x2
  replace x3 := (hb.cell (World.block_lt_of_cell? w0 _ x3)).trans x3
  replace x4 := (hb.cell (World.block_lt_of_cell? w0 _ x4)).trans x4
  replace x5 := (hb.cell (World.block_lt_of_cell? w0 _ x5)).trans x5
  have p5 : (0 ≤ (i : Int)) = True := eq_true (by omega)
  have q5 : ((i : Int) < (l.length : Int)) = True := eq_true (by omega)
  have h4 := R.len4
  have hw := ti i (by omega)
  have f4 := Fi.t4 i hi
  have f2 := Fi.t2 i hi
  have f3 := Fi.len i hi
  have fa := Fi.at_ i hi
  have fk := Fi.kind i h0 hi
  have HR := Aside0.mk hr
  have HCL := Aside0.mk hc
  have HF := Aside0.mk (Fits.mk1 hi hf)
  have HM := Aside0.mk (show kdOf l i = 0 → m = i + 1 from fun h => by rw [h] at hf; exact hf.zero.symm)
  have RR := Aside0.mk R
  obtain ⟨x, ex⟩ : ∃ x, x = rd_T57 l (i : Int) := ⟨_, rfl⟩
  have ex' : x = rd_T57 l (i : Nat) := ex
  rw [← ex] at x0 x1 x2 x3 x4 x5 hc3 hC3
  rw [← ex'] at hl f4 f2 f3 fa fk ⊢
  clear ex ex'
  have C3 := Aside0.mk hC3
  have FA := Aside0.mk fa
  have FK := Aside0.mk fk
  have F4 := Aside0.mk f4
  have F2 := Aside0.mk f2
  have F3 := Aside0.mk f3
  have HB0 := Aside0.mk hb
  have HO0 := Aside0.mk ho
  have HL := Aside0.mk hl
  have KC := Aside0.mk hK
  have II := Aside0.mk hi
  have L3 := Aside0.mk hc3
  have s1 : (9223372036854775807 < 4 + x.f4.size) = False := eq_false (by omega)
  have s2 : (9223372036854775807 < 4 + x.f4.size + 3) = False := eq_false (by omega)
  have s3 : (9223372036854775807 < 10 + x.f2.size) = False := eq_false (by omega)
  have s4 : (9223372036854775807 < 10 + x.f2.size + 1) = False := eq_false (by omega)
  have s5 : (9223372036854775807 < 1 + x.f2.size) = False := eq_false (by omega)
  have s6 : (9223372036854775807 < 2 + x.f2.size) = False := eq_false (by omega)
  have s7 : (9223372036854775807 < 2 + x.f2.size + 1) = False := eq_false (by omega)
  clear hr hc R Fi hf hb ho hl hK f4 f2 f3 fa fk h4 hi hC3 hc3
  go_enter Tryz.func25, Tryz.ntmps25
  go_upto_region 2 with (fail)
  have HX := Aside0.mk (blk_new W (.cells #[.int .i64 x.f0, .int .i64 x.f1, .string x.f2, .slice A3 x.f3.length c3, .string x.f4, .int .i64 x.f5] 57))
  have nb0 := below_alloc (Below.refl W.heap.size W) (.cells #[.int .i64 x.f0, .int .i64 x.f1, .string x.f2, .slice A3 x.f3.length c3, .string x.f4, .int .i64 x.f5] 57)
  have HB := Aside0.mk (below_alloc HB0.out (.cells #[.int .i64 x.f0, .int .i64 x.f1, .string x.f2, .slice A3 x.f3.length c3, .string x.f4, .int .i64 x.f5] 57))
  have HO := Aside0.mk (OwnB.below HO0.out nb0)
  have HK := Aside0.mk (kept_below nb0)
  obtain ⟨gx, egx⟩ : ∃ gx, gx = W.heap.size := ⟨_, rfl⟩
  rw [← egx] at HX ⊢
  clear egx nb0 x0 x1 x2 x3 x4 x5 HB0 HO0
  generalize W.alloc (.cells #[.int .i64 x.f0, .int .i64 x.f1, .string x.f2, .slice A3 x.f3.length c3, .string x.f4, .int .i64 x.f5] 57) = w1 at HX HB HO HK ⊢
  have k0 : w1.cell? ⟨gx, 0, none⟩ = some (.int .i64 x.f0) := (blk_cell HX.out 0).trans rfl
  have k1 : w1.cell? ⟨gx, 1, none⟩ = some (.int .i64 x.f1) := (blk_cell HX.out 1).trans rfl
  have k2 : w1.cell? ⟨gx, 2, none⟩ = some (.string x.f2) := (blk_cell HX.out 2).trans rfl
  have k3 : w1.cell? ⟨gx, 3, none⟩ = some (.slice A3 x.f3.length c3) := (blk_cell HX.out 3).trans rfl
  have k4 : w1.cell? ⟨gx, 4, none⟩ = some (.string x.f4) := (blk_cell HX.out 4).trans rfl
  have k5 : w1.cell? ⟨gx, 5, none⟩ = some (.int .i64 x.f5) := (blk_cell HX.out 5).trans rfl
  by_cases b3 : x.f1 = 3
  · have d3 : (x.f1 == 3) = true := by rw [b3]; rfl
    have hm : m = i + 1 := HM.out (by rcases FK.out with h | h; exact absurd (h.symm.trans b3) (by decide); exact h.2)
    obtain ⟨z, hz, hz1⟩ := raw_spec ab
    obtain ⟨k, hk⟩ := val_rounds (g := fun k => spec_RawKind.f k ab) hz
    have HKR := Aside0.mk hk
    have HLN := Aside0.mk (show nodeS x ab t = if raw1 ab = true then x.f4 else eT x.f4 from by unfold nodeS; rw [if_pos b3])
    subst hm
    clear hz hk b3
    cases hraw : raw1 ab with
    | true =>
      rw [hraw] at hz1
      have HLN2 := Aside0.mk (show nodeS x ab t = x.f4 from by rw [HLN.out, if_pos hraw])
      have HL2 := Aside0.mk (show xs.length + x.f4.size ≤ 3000000000000 from by rw [← HLN2.out]; exact HL.out)
      go_wp2_with (first
        | ((with_reducible refine gate_dst (N := 21) rfl ?_); (refine goesL_ (some 21) rfl rfl Tryz.func33 (by kernel_rfl) rfl #[.string ab] rfl (by (try simp only [List.map_toArray, List.map_cons, List.map_nil]); first | done | rfl) ?_; refine (spec_RawKind.calls k ab z _ HKR.out).mono ?_; rintro e_ w2 ⟨rfl, hd⟩; refine ⟨_, rfl, ?_⟩; have hb := hd.below; have nb := Aside0.mk (below_step HB.out hb); have no := Aside0.mk (OwnB.below HO.out hb); have nk := Aside0.mk (HK.out.trans (kept_below hb)); have nx := Aside0.mk ((kept_below hb).blk HX.out (by decide)); clear k0 k1 k2 k3 k4 k5; clear HB HO HK HX; have HB := nb; have HO := no; have HK := nk; have HX := nx; clear nb no nk nx; have k0 : w2.cell? ⟨gx, 0, none⟩ = some (.int .i64 x.f0) := (blk_cell HX.out 0).trans rfl; have k1 : w2.cell? ⟨gx, 1, none⟩ = some (.int .i64 x.f1) := (blk_cell HX.out 1).trans rfl; have k2 : w2.cell? ⟨gx, 2, none⟩ = some (.string x.f2) := (blk_cell HX.out 2).trans rfl; have k3 : w2.cell? ⟨gx, 3, none⟩ = some (.slice A3 x.f3.length c3) := (blk_cell HX.out 3).trans rfl; have k4 : w2.cell? ⟨gx, 4, none⟩ = some (.string x.f4) := (blk_cell HX.out 4).trans rfl; have k5 : w2.cell? ⟨gx, 5, none⟩ = some (.int .i64 x.f5) := (blk_cell HX.out 5).trans rfl; clear hb hd))
        | ((with_reducible refine gate_dst (N := 26) rfl ?_); refine print_append_str (w0 := w0) w0.heap.size ?hg26 ?so26 ?xo26 37 9 5 ?ho26 Tryz.underlying37 Tryz.underlying9 ?hinfo26 v xs x.f4 ?hs26 ?hx26 HO.out HB.out HB.out.size (Nat.le_trans HL2.out (by decide)) ?_; (case hg26 => rfl); (case ho26 => rfl); (case hinfo26 => kernel_rfl); (case hs26 => rfl); (case hx26 => rfl); intro v3 w3 ho1 hb1 hg1; have nb := Aside0.mk hb1; have no := Aside0.mk ho1; have nk := Aside0.mk (HK.out.trans (kept_grown HO.out hg1)); have nx := Aside0.mk ((kept_grown HO.out hg1).blk HX.out (by decide)); clear k0 k1 k2 k3 k4 k5; clear HB HO HK HX; have HB := nb; have HO := no; have HK := nk; have HX := nx; clear nb no nk nx; have k0 : w3.cell? ⟨gx, 0, none⟩ = some (.int .i64 x.f0) := (blk_cell HX.out 0).trans rfl; have k1 : w3.cell? ⟨gx, 1, none⟩ = some (.int .i64 x.f1) := (blk_cell HX.out 1).trans rfl; have k2 : w3.cell? ⟨gx, 2, none⟩ = some (.string x.f2) := (blk_cell HX.out 2).trans rfl; have k3 : w3.cell? ⟨gx, 3, none⟩ = some (.slice A3 x.f3.length c3) := (blk_cell HX.out 3).trans rfl; have k4 : w3.cell? ⟨gx, 4, none⟩ = some (.string x.f4) := (blk_cell HX.out 4).trans rfl; have k5 : w3.cell? ⟨gx, 5, none⟩ = some (.int .i64 x.f5) := (blk_cell HX.out 5).trans rfl; clear ho1 hb1 hg1))
      go_ret2
      rw [HLN2.out]
      exact ⟨_, rfl, HO.out, HB.out, HK.out⟩
    | false =>
      rw [hraw] at hz1
      have HLN2 := Aside0.mk (show nodeS x ab t = eT x.f4 from by rw [HLN.out, if_neg (by rw [hraw]; decide)])
      have HL2 := Aside0.mk (show xs.length + (eT x.f4).size ≤ 3000000000000 from by rw [← HLN2.out]; exact HL.out)
      obtain ⟨kE, hk2⟩ := val_rounds (g := fun k => spec_EscapeText.f k x.f4) (escT_spec x.f4 F4.out)
      have HKE := Aside0.mk hk2
      clear hk2
      go_wp2_with (first
        | ((with_reducible refine gate_dst (N := 21) rfl ?_); (refine goesL_ (some 21) rfl rfl Tryz.func33 (by kernel_rfl) rfl #[.string ab] rfl (by (try simp only [List.map_toArray, List.map_cons, List.map_nil]); first | done | rfl) ?_; refine (spec_RawKind.calls k ab z _ HKR.out).mono ?_; rintro e_ w2 ⟨rfl, hd⟩; refine ⟨_, rfl, ?_⟩; have hb := hd.below; have nb := Aside0.mk (below_step HB.out hb); have no := Aside0.mk (OwnB.below HO.out hb); have nk := Aside0.mk (HK.out.trans (kept_below hb)); have nx := Aside0.mk ((kept_below hb).blk HX.out (by decide)); clear k0 k1 k2 k3 k4 k5; clear HB HO HK HX; have HB := nb; have HO := no; have HK := nk; have HX := nx; clear nb no nk nx; have k0 : w2.cell? ⟨gx, 0, none⟩ = some (.int .i64 x.f0) := (blk_cell HX.out 0).trans rfl; have k1 : w2.cell? ⟨gx, 1, none⟩ = some (.int .i64 x.f1) := (blk_cell HX.out 1).trans rfl; have k2 : w2.cell? ⟨gx, 2, none⟩ = some (.string x.f2) := (blk_cell HX.out 2).trans rfl; have k3 : w2.cell? ⟨gx, 3, none⟩ = some (.slice A3 x.f3.length c3) := (blk_cell HX.out 3).trans rfl; have k4 : w2.cell? ⟨gx, 4, none⟩ = some (.string x.f4) := (blk_cell HX.out 4).trans rfl; have k5 : w2.cell? ⟨gx, 5, none⟩ = some (.int .i64 x.f5) := (blk_cell HX.out 5).trans rfl; clear hb hd))
        | ((with_reducible refine gate_dst (N := 32) rfl ?_); (refine goesL_ (some 32) rfl rfl Tryz.func34 (by kernel_rfl) rfl #[.string x.f4] rfl (by (try simp only [List.map_toArray, List.map_cons, List.map_nil]); first | done | rfl) ?_; refine (spec_EscapeText.calls kE x.f4 (eT x.f4) _ HKE.out).mono ?_; rintro e_ w3 ⟨rfl, hb⟩; refine ⟨_, rfl, ?_⟩; have nb := Aside0.mk (below_step HB.out hb); have no := Aside0.mk (OwnB.below HO.out hb); have nk := Aside0.mk (HK.out.trans (kept_below hb)); have nx := Aside0.mk ((kept_below hb).blk HX.out (by decide)); clear k0 k1 k2 k3 k4 k5; clear HB HO HK HX; have HB := nb; have HO := no; have HK := nk; have HX := nx; clear nb no nk nx; have k0 : w3.cell? ⟨gx, 0, none⟩ = some (.int .i64 x.f0) := (blk_cell HX.out 0).trans rfl; have k1 : w3.cell? ⟨gx, 1, none⟩ = some (.int .i64 x.f1) := (blk_cell HX.out 1).trans rfl; have k2 : w3.cell? ⟨gx, 2, none⟩ = some (.string x.f2) := (blk_cell HX.out 2).trans rfl; have k3 : w3.cell? ⟨gx, 3, none⟩ = some (.slice A3 x.f3.length c3) := (blk_cell HX.out 3).trans rfl; have k4 : w3.cell? ⟨gx, 4, none⟩ = some (.string x.f4) := (blk_cell HX.out 4).trans rfl; have k5 : w3.cell? ⟨gx, 5, none⟩ = some (.int .i64 x.f5) := (blk_cell HX.out 5).trans rfl; clear hb))
        | ((with_reducible refine gate_dst (N := 33) rfl ?_); refine print_append_str (w0 := w0) w0.heap.size ?hg33 ?so33 ?xo33 37 9 5 ?ho33 Tryz.underlying37 Tryz.underlying9 ?hinfo33 v xs (eT x.f4) ?hs33 ?hx33 HO.out HB.out HB.out.size (Nat.le_trans HL2.out (by decide)) ?_; (case hg33 => rfl); (case ho33 => rfl); (case hinfo33 => kernel_rfl); (case hs33 => rfl); (case hx33 => rfl); intro v4 w4 ho1 hb1 hg1; have nb := Aside0.mk hb1; have no := Aside0.mk ho1; have nk := Aside0.mk (HK.out.trans (kept_grown HO.out hg1)); have nx := Aside0.mk ((kept_grown HO.out hg1).blk HX.out (by decide)); clear k0 k1 k2 k3 k4 k5; clear HB HO HK HX; have HB := nb; have HO := no; have HK := nk; have HX := nx; clear nb no nk nx; have k0 : w4.cell? ⟨gx, 0, none⟩ = some (.int .i64 x.f0) := (blk_cell HX.out 0).trans rfl; have k1 : w4.cell? ⟨gx, 1, none⟩ = some (.int .i64 x.f1) := (blk_cell HX.out 1).trans rfl; have k2 : w4.cell? ⟨gx, 2, none⟩ = some (.string x.f2) := (blk_cell HX.out 2).trans rfl; have k3 : w4.cell? ⟨gx, 3, none⟩ = some (.slice A3 x.f3.length c3) := (blk_cell HX.out 3).trans rfl; have k4 : w4.cell? ⟨gx, 4, none⟩ = some (.string x.f4) := (blk_cell HX.out 4).trans rfl; have k5 : w4.cell? ⟨gx, 5, none⟩ = some (.int .i64 x.f5) := (blk_cell HX.out 5).trans rfl; clear ho1 hb1 hg1))
      go_ret2
      rw [HLN2.out]
      exact ⟨_, rfl, HO.out, HB.out, HK.out⟩
  have d3 : (x.f1 == 3) = false := beq_eq_false_iff_ne.mpr b3
  by_cases b4 : x.f1 = 4
  · have d4 : (x.f1 == 4) = true := by rw [b4]; rfl
    have hm : m = i + 1 := HM.out (by rcases FK.out with h | h; exact absurd (h.symm.trans b4) (by decide); exact h.2)
    have HLN := Aside0.mk (show nodeS x ab t = (((⟨#[60, 33, 45, 45]⟩ : ByteArray) ++ x.f4) ++ (⟨#[45, 45, 62]⟩ : ByteArray)) from by unfold nodeS; rw [if_neg b3, if_pos b4])
    have HL2 := Aside0.mk (show xs.length + (((⟨#[60, 33, 45, 45]⟩ : ByteArray) ++ x.f4) ++ (⟨#[45, 45, 62]⟩ : ByteArray)).size ≤ 3000000000000 from by rw [← HLN.out]; exact HL.out)
    subst hm
    clear b3 b4
    go_wp2_with (first
      | ((with_reducible refine gate_dst (N := 43) rfl ?_); refine print_append_str (w0 := w0) w0.heap.size ?hg43 ?so43 ?xo43 37 9 5 ?ho43 Tryz.underlying37 Tryz.underlying9 ?hinfo43 v xs (((⟨#[60, 33, 45, 45]⟩ : ByteArray) ++ x.f4) ++ (⟨#[45, 45, 62]⟩ : ByteArray)) ?hs43 ?hx43 HO.out HB.out HB.out.size (Nat.le_trans HL2.out (by decide)) ?_; (case hg43 => rfl); (case ho43 => rfl); (case hinfo43 => kernel_rfl); (case hs43 => rfl); (case hx43 => rfl); intro v2 w2 ho1 hb1 hg1; have nb := Aside0.mk hb1; have no := Aside0.mk ho1; have nk := Aside0.mk (HK.out.trans (kept_grown HO.out hg1)); have nx := Aside0.mk ((kept_grown HO.out hg1).blk HX.out (by decide)); clear k0 k1 k2 k3 k4 k5; clear HB HO HK HX; have HB := nb; have HO := no; have HK := nk; have HX := nx; clear nb no nk nx; have k0 : w2.cell? ⟨gx, 0, none⟩ = some (.int .i64 x.f0) := (blk_cell HX.out 0).trans rfl; have k1 : w2.cell? ⟨gx, 1, none⟩ = some (.int .i64 x.f1) := (blk_cell HX.out 1).trans rfl; have k2 : w2.cell? ⟨gx, 2, none⟩ = some (.string x.f2) := (blk_cell HX.out 2).trans rfl; have k3 : w2.cell? ⟨gx, 3, none⟩ = some (.slice A3 x.f3.length c3) := (blk_cell HX.out 3).trans rfl; have k4 : w2.cell? ⟨gx, 4, none⟩ = some (.string x.f4) := (blk_cell HX.out 4).trans rfl; have k5 : w2.cell? ⟨gx, 5, none⟩ = some (.int .i64 x.f5) := (blk_cell HX.out 5).trans rfl; clear ho1 hb1 hg1))
    go_ret2
    rw [HLN.out]
    exact ⟨_, rfl, HO.out, HB.out, HK.out⟩
  have d4 : (x.f1 == 4) = false := beq_eq_false_iff_ne.mpr b4
  by_cases b5 : x.f1 = 5
  · have d5 : (x.f1 == 5) = true := by rw [b5]; rfl
    have hm : m = i + 1 := HM.out (by rcases FK.out with h | h; exact absurd (h.symm.trans b5) (by decide); exact h.2)
    have HLN := Aside0.mk (show nodeS x ab t = (((⟨#[60, 33, 100, 111, 99, 116, 121, 112, 101, 32]⟩ : ByteArray) ++ x.f2) ++ (⟨#[62]⟩ : ByteArray)) from by unfold nodeS; rw [if_neg b3, if_neg b4, if_pos b5])
    have HL2 := Aside0.mk (show xs.length + (((⟨#[60, 33, 100, 111, 99, 116, 121, 112, 101, 32]⟩ : ByteArray) ++ x.f2) ++ (⟨#[62]⟩ : ByteArray)).size ≤ 3000000000000 from by rw [← HLN.out]; exact HL.out)
    subst hm
    clear b3 b4 b5
    go_wp2_with (first
      | ((with_reducible refine gate_dst (N := 53) rfl ?_); refine print_append_str (w0 := w0) w0.heap.size ?hg53 ?so53 ?xo53 37 9 5 ?ho53 Tryz.underlying37 Tryz.underlying9 ?hinfo53 v xs (((⟨#[60, 33, 100, 111, 99, 116, 121, 112, 101, 32]⟩ : ByteArray) ++ x.f2) ++ (⟨#[62]⟩ : ByteArray)) ?hs53 ?hx53 HO.out HB.out HB.out.size (Nat.le_trans HL2.out (by decide)) ?_; (case hg53 => rfl); (case ho53 => rfl); (case hinfo53 => kernel_rfl); (case hs53 => rfl); (case hx53 => rfl); intro v2 w2 ho1 hb1 hg1; have nb := Aside0.mk hb1; have no := Aside0.mk ho1; have nk := Aside0.mk (HK.out.trans (kept_grown HO.out hg1)); have nx := Aside0.mk ((kept_grown HO.out hg1).blk HX.out (by decide)); clear k0 k1 k2 k3 k4 k5; clear HB HO HK HX; have HB := nb; have HO := no; have HK := nk; have HX := nx; clear nb no nk nx; have k0 : w2.cell? ⟨gx, 0, none⟩ = some (.int .i64 x.f0) := (blk_cell HX.out 0).trans rfl; have k1 : w2.cell? ⟨gx, 1, none⟩ = some (.int .i64 x.f1) := (blk_cell HX.out 1).trans rfl; have k2 : w2.cell? ⟨gx, 2, none⟩ = some (.string x.f2) := (blk_cell HX.out 2).trans rfl; have k3 : w2.cell? ⟨gx, 3, none⟩ = some (.slice A3 x.f3.length c3) := (blk_cell HX.out 3).trans rfl; have k4 : w2.cell? ⟨gx, 4, none⟩ = some (.string x.f4) := (blk_cell HX.out 4).trans rfl; have k5 : w2.cell? ⟨gx, 5, none⟩ = some (.int .i64 x.f5) := (blk_cell HX.out 5).trans rfl; clear ho1 hb1 hg1))
    go_ret2
    rw [HLN.out]
    exact ⟨_, rfl, HO.out, HB.out, HK.out⟩
  have d5 : (x.f1 == 5) = false := beq_eq_false_iff_ne.mpr b5
  have HLN := Aside0.mk (show nodeS x ab t = if voidB x.f2 = true then headS x else (headS x ++ t) ++ tailS x from by unfold nodeS; rw [if_neg b3, if_neg b4, if_neg b5])
  clear b3 b4 b5
  have HHS := Aside0.mk (show xs.length + (headS x).size ≤ 3000000000000 from by
    have h := HL.out
    rw [HLN.out] at h
    split at h
    · exact h
    · rw [ByteArray.size_append, ByteArray.size_append] at h; omega)
  have HH1 := Aside0.mk (show (headS x).size = 1 + x.f2.size + (attN x.f3 x.f3.length).size + 1 from by
    unfold headS
    simp only [ByteArray.size_append]
    rfl)
  go_wp2_with (first
    | ((with_reducible refine gate_dst (N := 60) rfl ?_); refine print_append_str (w0 := w0) w0.heap.size ?hg60 ?so60 ?xo60 37 9 5 ?ho60 Tryz.underlying37 Tryz.underlying9 ?hinfo60 v xs ((⟨#[60]⟩ : ByteArray) ++ x.f2) ?hs60 ?hx60 HO.out HB.out HB.out.size (by have := HHS.out; have := HH1.out; rw [ByteArray.size_append]; show xs.length + (1 + x.f2.size) ≤ _; omega) ?_; (case hg60 => rfl); (case ho60 => rfl); (case hinfo60 => kernel_rfl); (case hs60 => rfl); (case hx60 => rfl); intro v2 w2 ho1 hb1 hg1; have nb := Aside0.mk hb1; have no := Aside0.mk ho1; have nk := Aside0.mk (HK.out.trans (kept_grown HO.out hg1)); have nx := Aside0.mk ((kept_grown HO.out hg1).blk HX.out (by decide)); clear k0 k1 k2 k3 k4 k5; clear HB HO HK HX; have HB := nb; have HO := no; have HK := nk; have HX := nx; clear nb no nk nx; have k0 : w2.cell? ⟨gx, 0, none⟩ = some (.int .i64 x.f0) := (blk_cell HX.out 0).trans rfl; have k1 : w2.cell? ⟨gx, 1, none⟩ = some (.int .i64 x.f1) := (blk_cell HX.out 1).trans rfl; have k2 : w2.cell? ⟨gx, 2, none⟩ = some (.string x.f2) := (blk_cell HX.out 2).trans rfl; have k3 : w2.cell? ⟨gx, 3, none⟩ = some (.slice A3 x.f3.length c3) := (blk_cell HX.out 3).trans rfl; have k4 : w2.cell? ⟨gx, 4, none⟩ = some (.string x.f4) := (blk_cell HX.out 4).trans rfl; have k5 : w2.cell? ⟨gx, 5, none⟩ = some (.int .i64 x.f5) := (blk_cell HX.out 5).trans rfl; clear ho1 hb1 hg1))
  clear k0 k1 k2 k3 k4 k5 s1 s2 s3 s4
  go_loopg [3, 11] x.f3.length (fun kq v3 v11 w' => ∃ (j : Nat) (xs' : List Int), v11 = .int .i64 (j : Int) ∧ Aside0 (j + kq = x.f3.length) ∧ Aside0 (xs' = xs ++ bytesOf (((⟨#[60]⟩ : ByteArray) ++ x.f2) ++ attN x.f3 j)) ∧ Aside0 (OwnB w' w0.heap.size v3 xs') ∧ Aside0 (Below w0.heap.size w0 w') ∧ Aside0 (KeptU W w') ∧ Aside0 (w'.heap[gx]? = some (.cells #[.int .i64 x.f0, .int .i64 x.f1, .string x.f2, .slice A3 x.f3.length c3, .string x.f4, .int .i64 x.f5] 57 (0, 0))))
  case atStart => exact ⟨0, _, rfl, ⟨Nat.zero_add _⟩, ⟨by rw [show attN x.f3 0 = (⟨#[]⟩ : ByteArray) from rfl]; rw [bytes_app ((⟨#[60]⟩ : ByteArray) ++ x.f2), bytes_nil, List.append_nil]⟩, HO, HB, HK, HX⟩
  case round =>
    clear HO HB HK HX
    obtain ⟨j, xs', rfl, HJ, HE, HO, HB, HK, HX⟩ := hrel
    have k0 : wr.cell? ⟨gx, 0, none⟩ = some (.int .i64 x.f0) := (blk_cell HX.out 0).trans rfl
    have k1 : wr.cell? ⟨gx, 1, none⟩ = some (.int .i64 x.f1) := (blk_cell HX.out 1).trans rfl
    have k2 : wr.cell? ⟨gx, 2, none⟩ = some (.string x.f2) := (blk_cell HX.out 2).trans rfl
    have k3 : wr.cell? ⟨gx, 3, none⟩ = some (.slice A3 x.f3.length c3) := (blk_cell HX.out 3).trans rfl
    have k4 : wr.cell? ⟨gx, 4, none⟩ = some (.string x.f4) := (blk_cell HX.out 4).trans rfl
    have k5 : wr.cell? ⟨gx, 5, none⟩ = some (.int .i64 x.f5) := (blk_cell HX.out 5).trans rfl
    cases gk with
    | zero =>
      have hj : j = x.f3.length := HJ.out
      subst hj
      have dj : decide ((x.f3.length : Int) < (x.f3.length : Int)) = false := decide_eq_false (by omega)
      have dj2 : decide (x.f3.length < x.f3.length) = false := decide_eq_false (by omega)
      have EH := Aside0.mk (show xs' ++ [(62 : Int)] = xs ++ bytesOf (headS x) from by
        rw [HE.out]
        show (xs ++ bytesOf (((⟨#[60]⟩ : ByteArray) ++ x.f2) ++ attN x.f3 x.f3.length)) ++ bytesOf (⟨#[62]⟩ : ByteArray) = _
        rw [List.append_assoc, ← bytes_app]
        rfl)
      have LH := Aside0.mk (show xs'.length + 1 = xs.length + (headS x).size from by
        have h := congrArg List.length EH.out
        rw [List.length_append, List.length_append, bytesOf_length] at h
        exact h)
      obtain ⟨kv, hkv⟩ := val_rounds (g := fun k => spec_l4Void.f k x.f2) (void_spec x.f2)
      have KV := Aside0.mk hkv
      clear hkv
      cases hv : voidB x.f2 with
      | true =>
        rw [hv] at KV
        have HL2 := Aside0.mk (show nodeS x ab t = headS x from by rw [HLN.out, if_pos hv])
        obtain ⟨kp, hkp⟩ := val_rounds (g := fun k => spec_l3Skip.f k l (i : Int)) (skip_is RR.out HF.out)
        have KP := Aside0.mk hkp
        clear hkp hv
        go_wp2_with (first
          | ((with_reducible refine gate_dst (N := 89) rfl ?_); refine print_append_num (w0 := w0) w0.heap.size ?hg89 ?so89 ?xo89 37 5 .u8 1 ?ho89 Tryz.underlying37 ?hinfo89 (by decide) u3 xs' 62 ?hs89 ?hx89 HO.out HB.out HB.out.size (by have := LH.out; have := HHS.out; omega) ?_; (case hg89 => rfl); (case ho89 => rfl); (case hinfo89 => kernel_rfl); (case hs89 => rfl); (case hx89 => rfl); intro v4 w4 ho1 hb1 hg1 _; have nb := Aside0.mk hb1; have no := Aside0.mk ho1; have nk := Aside0.mk (HK.out.trans (kept_grown HO.out hg1)); have nx := Aside0.mk ((kept_grown HO.out hg1).blk HX.out (by decide)); clear k0 k1 k2 k3 k4 k5; clear HB HO HK HX; have HB := nb; have HO := no; have HK := nk; have HX := nx; clear nb no nk nx; have k0 : w4.cell? ⟨gx, 0, none⟩ = some (.int .i64 x.f0) := (blk_cell HX.out 0).trans rfl; have k1 : w4.cell? ⟨gx, 1, none⟩ = some (.int .i64 x.f1) := (blk_cell HX.out 1).trans rfl; have k2 : w4.cell? ⟨gx, 2, none⟩ = some (.string x.f2) := (blk_cell HX.out 2).trans rfl; have k3 : w4.cell? ⟨gx, 3, none⟩ = some (.slice A3 x.f3.length c3) := (blk_cell HX.out 3).trans rfl; have k4 : w4.cell? ⟨gx, 4, none⟩ = some (.string x.f4) := (blk_cell HX.out 4).trans rfl; have k5 : w4.cell? ⟨gx, 5, none⟩ = some (.int .i64 x.f5) := (blk_cell HX.out 5).trans rfl; clear ho1 hb1 hg1)
          | ((with_reducible refine gate_dst (N := 92) rfl ?_); (refine goesL_ (some 92) rfl rfl Tryz.func36 (by kernel_rfl) rfl #[.string x.f2] rfl (by (try simp only [List.map_toArray, List.map_cons, List.map_nil]); first | done | rfl) ?_; refine (spec_l4Void.calls kv x.f2 _ _ KV.out).mono ?_; rintro e_ w5 ⟨rfl, hd⟩; refine ⟨_, rfl, ?_⟩; have hb := hd.below; have nb := Aside0.mk (below_step HB.out hb); have no := Aside0.mk (OwnB.below HO.out hb); have nk := Aside0.mk (HK.out.trans (kept_below hb)); have nx := Aside0.mk ((kept_below hb).blk HX.out (by decide)); clear k0 k1 k2 k3 k4 k5; clear HB HO HK HX; have HB := nb; have HO := no; have HK := nk; have HX := nx; clear nb no nk nx; have k0 : w5.cell? ⟨gx, 0, none⟩ = some (.int .i64 x.f0) := (blk_cell HX.out 0).trans rfl; have k1 : w5.cell? ⟨gx, 1, none⟩ = some (.int .i64 x.f1) := (blk_cell HX.out 1).trans rfl; have k2 : w5.cell? ⟨gx, 2, none⟩ = some (.string x.f2) := (blk_cell HX.out 2).trans rfl; have k3 : w5.cell? ⟨gx, 3, none⟩ = some (.slice A3 x.f3.length c3) := (blk_cell HX.out 3).trans rfl; have k4 : w5.cell? ⟨gx, 4, none⟩ = some (.string x.f4) := (blk_cell HX.out 4).trans rfl; have k5 : w5.cell? ⟨gx, 5, none⟩ = some (.int .i64 x.f5) := (blk_cell HX.out 5).trans rfl; clear hb hd))
          | ((with_reducible refine gate_dst (N := 96) rfl ?_); (refine goesL_ (some 96) rfl rfl Tryz.func23 (by kernel_rfl) rfl #[.slice (some ad) l.length c0, .int .i64 (i : Int)] rfl (by (try simp only [List.map_toArray, List.map_cons, List.map_nil]); first | done | rfl) ?_; refine (spec_l3Skip.calls kp (some ad) c0 l (i : Int) (m : Int) _ (Kd.C_below HR.out HB.out) HCL.out KP.out).mono ?_; rintro e_ w6 ⟨rfl, hd⟩; refine ⟨_, rfl, ?_⟩; have hb := hd.below; have nb := Aside0.mk (below_step HB.out hb); have no := Aside0.mk (OwnB.below HO.out hb); have nk := Aside0.mk (HK.out.trans (kept_below hb)); have nx := Aside0.mk ((kept_below hb).blk HX.out (by decide)); clear k0 k1 k2 k3 k4 k5; clear HB HO HK HX; have HB := nb; have HO := no; have HK := nk; have HX := nx; clear nb no nk nx; have k0 : w6.cell? ⟨gx, 0, none⟩ = some (.int .i64 x.f0) := (blk_cell HX.out 0).trans rfl; have k1 : w6.cell? ⟨gx, 1, none⟩ = some (.int .i64 x.f1) := (blk_cell HX.out 1).trans rfl; have k2 : w6.cell? ⟨gx, 2, none⟩ = some (.string x.f2) := (blk_cell HX.out 2).trans rfl; have k3 : w6.cell? ⟨gx, 3, none⟩ = some (.slice A3 x.f3.length c3) := (blk_cell HX.out 3).trans rfl; have k4 : w6.cell? ⟨gx, 4, none⟩ = some (.string x.f4) := (blk_cell HX.out 4).trans rfl; have k5 : w6.cell? ⟨gx, 5, none⟩ = some (.int .i64 x.f5) := (blk_cell HX.out 5).trans rfl; clear hb hd)))
        go_ret2
        rw [HL2.out, ← EH.out]
        exact ⟨_, rfl, HO.out, HB.out, HK.out⟩
      | false =>
        rw [hv] at KV
        have HL2 := Aside0.mk (show nodeS x ab t = (headS x ++ t) ++ tailS x from by rw [HLN.out, if_neg (by rw [hv]; decide)])
        have HL3 := Aside0.mk (show xs.length + ((headS x).size + t.size + (tailS x).size) ≤ 3000000000000 from by
          have h := HL.out
          rw [HL2.out, ByteArray.size_append, ByteArray.size_append] at h
          exact h)
        clear hv
        go_wp2_with (first
          | ((with_reducible refine gate_dst (N := 89) rfl ?_); refine print_append_num (w0 := w0) w0.heap.size ?hg89 ?so89 ?xo89 37 5 .u8 1 ?ho89 Tryz.underlying37 ?hinfo89 (by decide) u3 xs' 62 ?hs89 ?hx89 HO.out HB.out HB.out.size (by have := LH.out; have := HHS.out; omega) ?_; (case hg89 => rfl); (case ho89 => rfl); (case hinfo89 => kernel_rfl); (case hs89 => rfl); (case hx89 => rfl); intro v4 w4 ho1 hb1 hg1 _; have nb := Aside0.mk hb1; have no := Aside0.mk ho1; have nk := Aside0.mk (HK.out.trans (kept_grown HO.out hg1)); have nx := Aside0.mk ((kept_grown HO.out hg1).blk HX.out (by decide)); clear k0 k1 k2 k3 k4 k5; clear HB HO HK HX; have HB := nb; have HO := no; have HK := nk; have HX := nx; clear nb no nk nx; have k0 : w4.cell? ⟨gx, 0, none⟩ = some (.int .i64 x.f0) := (blk_cell HX.out 0).trans rfl; have k1 : w4.cell? ⟨gx, 1, none⟩ = some (.int .i64 x.f1) := (blk_cell HX.out 1).trans rfl; have k2 : w4.cell? ⟨gx, 2, none⟩ = some (.string x.f2) := (blk_cell HX.out 2).trans rfl; have k3 : w4.cell? ⟨gx, 3, none⟩ = some (.slice A3 x.f3.length c3) := (blk_cell HX.out 3).trans rfl; have k4 : w4.cell? ⟨gx, 4, none⟩ = some (.string x.f4) := (blk_cell HX.out 4).trans rfl; have k5 : w4.cell? ⟨gx, 5, none⟩ = some (.int .i64 x.f5) := (blk_cell HX.out 5).trans rfl; clear ho1 hb1 hg1)
          | ((with_reducible refine gate_dst (N := 92) rfl ?_); (refine goesL_ (some 92) rfl rfl Tryz.func36 (by kernel_rfl) rfl #[.string x.f2] rfl (by (try simp only [List.map_toArray, List.map_cons, List.map_nil]); first | done | rfl) ?_; refine (spec_l4Void.calls kv x.f2 _ _ KV.out).mono ?_; rintro e_ w5 ⟨rfl, hd⟩; refine ⟨_, rfl, ?_⟩; have hb := hd.below; have nb := Aside0.mk (below_step HB.out hb); have no := Aside0.mk (OwnB.below HO.out hb); have nk := Aside0.mk (HK.out.trans (kept_below hb)); have nx := Aside0.mk ((kept_below hb).blk HX.out (by decide)); clear k0 k1 k2 k3 k4 k5; clear HB HO HK HX; have HB := nb; have HO := no; have HK := nk; have HX := nx; clear nb no nk nx; have k0 : w5.cell? ⟨gx, 0, none⟩ = some (.int .i64 x.f0) := (blk_cell HX.out 0).trans rfl; have k1 : w5.cell? ⟨gx, 1, none⟩ = some (.int .i64 x.f1) := (blk_cell HX.out 1).trans rfl; have k2 : w5.cell? ⟨gx, 2, none⟩ = some (.string x.f2) := (blk_cell HX.out 2).trans rfl; have k3 : w5.cell? ⟨gx, 3, none⟩ = some (.slice A3 x.f3.length c3) := (blk_cell HX.out 3).trans rfl; have k4 : w5.cell? ⟨gx, 4, none⟩ = some (.string x.f4) := (blk_cell HX.out 4).trans rfl; have k5 : w5.cell? ⟨gx, 5, none⟩ = some (.int .i64 x.f5) := (blk_cell HX.out 5).trans rfl; clear hb hd))
          | ((with_reducible refine gate_dst (N := 101) rfl ?_); (refine goesL_ (some 101) rfl rfl Tryz.func14 (by kernel_rfl) rfl #[.slice (some ad) l.length c0, .int .i64 (i : Int), v4] rfl (by (try simp only [List.map_toArray, List.map_cons, List.map_nil]); first | done | rfl) ?_; refine (KC.out _ v4 _ HB.out HO.out (by have := HL3.out; have := LH.out; rw [List.length_append]; show xs'.length + 1 + _ ≤ _; omega)).mono ?_; rintro e_ w6 ⟨v6, rfl, ho, hb, hk⟩; refine ⟨_, rfl, ?_⟩; have nx := Aside0.mk (hk.blk HX.out (by decide)); have nk := Aside0.mk (HK.out.trans hk); clear k0 k1 k2 k3 k4 k5 HB HO HK HX; have HB := Aside0.mk hb; have HO := Aside0.mk ho; have HK := nk; have HX := nx; clear nk nx ho hb hk; have k0 : w6.cell? ⟨gx, 0, none⟩ = some (.int .i64 x.f0) := (blk_cell HX.out 0).trans rfl; have k1 : w6.cell? ⟨gx, 1, none⟩ = some (.int .i64 x.f1) := (blk_cell HX.out 1).trans rfl; have k2 : w6.cell? ⟨gx, 2, none⟩ = some (.string x.f2) := (blk_cell HX.out 2).trans rfl; have k3 : w6.cell? ⟨gx, 3, none⟩ = some (.slice A3 x.f3.length c3) := (blk_cell HX.out 3).trans rfl; have k4 : w6.cell? ⟨gx, 4, none⟩ = some (.string x.f4) := (blk_cell HX.out 4).trans rfl; have k5 : w6.cell? ⟨gx, 5, none⟩ = some (.int .i64 x.f5) := (blk_cell HX.out 5).trans rfl; skip))
          | ((with_reducible refine gate_dst (N := 109) rfl ?_); refine print_append_str (w0 := w0) w0.heap.size ?hg109 ?so109 ?xo109 37 9 5 ?ho109 Tryz.underlying37 Tryz.underlying9 ?hinfo109 v6 (xs' ++ [(62 : Int)] ++ bytesOf t) (((⟨#[60, 47]⟩ : ByteArray) ++ x.f2) ++ (⟨#[62]⟩ : ByteArray)) ?hs109 ?hx109 HO.out HB.out HB.out.size (by have := HL3.out; have := LH.out; rw [List.length_append, List.length_append, bytesOf_length]; show xs'.length + 1 + t.size + (tailS x).size ≤ _; omega) ?_; (case hg109 => rfl); (case ho109 => rfl); (case hinfo109 => kernel_rfl); (case hs109 => rfl); (case hx109 => rfl); intro v7 w7 ho1 hb1 hg1; have nb := Aside0.mk hb1; have no := Aside0.mk ho1; have nk := Aside0.mk (HK.out.trans (kept_grown HO.out hg1)); have nx := Aside0.mk ((kept_grown HO.out hg1).blk HX.out (by decide)); clear k0 k1 k2 k3 k4 k5; clear HB HO HK HX; have HB := nb; have HO := no; have HK := nk; have HX := nx; clear nb no nk nx; have k0 : w7.cell? ⟨gx, 0, none⟩ = some (.int .i64 x.f0) := (blk_cell HX.out 0).trans rfl; have k1 : w7.cell? ⟨gx, 1, none⟩ = some (.int .i64 x.f1) := (blk_cell HX.out 1).trans rfl; have k2 : w7.cell? ⟨gx, 2, none⟩ = some (.string x.f2) := (blk_cell HX.out 2).trans rfl; have k3 : w7.cell? ⟨gx, 3, none⟩ = some (.slice A3 x.f3.length c3) := (blk_cell HX.out 3).trans rfl; have k4 : w7.cell? ⟨gx, 4, none⟩ = some (.string x.f4) := (blk_cell HX.out 4).trans rfl; have k5 : w7.cell? ⟨gx, 5, none⟩ = some (.int .i64 x.f5) := (blk_cell HX.out 5).trans rfl; clear ho1 hb1 hg1))
        go_ret2
        rw [HL2.out, bytes_app, bytes_app, ← List.append_assoc, ← List.append_assoc, ← EH.out]
        exact ⟨_, rfl, HO.out, HB.out, HK.out⟩
    | succ d =>
      have hj : j < x.f3.length := by have := HJ.out; omega
      have dj : decide ((j : Int) < (x.f3.length : Int)) = true := decide_eq_true (by omega)
      have dj2 : decide (j < x.f3.length) = true := decide_eq_true hj
      have pj : (0 ≤ (j : Int)) = True := eq_true (by omega)
      have qj : ((j : Int) < (x.f3.length : Int)) = True := eq_true (by omega)
      obtain ⟨adA, eA, y0, y1⟩ := at_T77 C3.out (j : Int) (by omega) (by omega)
      subst eA
      rw [Int.toNat_natCast] at y0 y1
      have Y0x := y0
      have Y1x := y1
      replace y0 := (HB.out.cell (World.block_lt_of_cell? w0 _ y0)).trans y0
      replace y1 := (HB.out.cell (World.block_lt_of_cell? w0 _ y1)).trans y1
      have hwj := tj j (by have := F3.out; omega)
      have ea : rd_T77 x.f3 (j : Int) ∈ x.f3 := by
        unfold rd_T77
        rw [Int.toNat_natCast, List.getD_eq_getElem?_getD, List.getElem?_eq_getElem hj]
        exact List.getElem_mem hj
      obtain ⟨a0, a1⟩ := FA.out _ ea
      obtain ⟨y, ey⟩ : ∃ y, y = rd_T77 x.f3 (j : Int) := ⟨_, rfl⟩
      have HS := Aside0.mk (show attN x.f3 (j + 1) = attN x.f3 j ++ attE y from by rw [ey]; rfl)
      rw [← ey] at y0 y1 a0 a1 Y0x Y1x
      have Y0 := Aside0.mk Y0x
      have Y1 := Aside0.mk Y1x
      clear Y0x Y1x
      have vs := eV_size y.f1
      obtain ⟨z, ez⟩ : ∃ z, z = eV y.f1 := ⟨_, rfl⟩
      obtain ⟨kE, hkE⟩ := val_rounds (g := fun k => spec_EscapeValue.f k y.f1) (escV_spec y.f1 a1)
      rw [← ez] at hkE vs
      have KE := Aside0.mk hkE
      have EE := Aside0.mk (show attE y = (((⟨#[32]⟩ : ByteArray) ++ y.f0 ++ (⟨#[61, 34]⟩ : ByteArray)) ++ z) ++ (⟨#[34]⟩ : ByteArray) from by rw [ez]; rfl)
      have s1 : (9223372036854775807 < 1 + y.f0.size) = False := eq_false (by omega)
      have s2 : (9223372036854775807 < 1 + y.f0.size + 2) = False := eq_false (by omega)
      have s3 : (9223372036854775807 < 1 + y.f0.size + 2 + z.size) = False := eq_false (by omega)
      have s4 : (9223372036854775807 < 1 + y.f0.size + 2 + z.size + 1) = False := eq_false (by omega)
      have HL4 := Aside0.mk (show xs'.length + (attE y).size ≤ 3000000000000 from by
        have e1 := HH1.out
        have e2 := HHS.out
        have e3 := attN_mono x.f3 (j + 1) x.f3.length hj
        rw [HS.out, ByteArray.size_append] at e3
        have h := congrArg List.length HE.out
        rw [List.length_append, bytesOf_length, ByteArray.size_append, ByteArray.size_append] at h
        have h3 : (⟨#[60]⟩ : ByteArray).size = 1 := rfl
        omega)
      clear ea ey ez hkE vs a0 a1 hj
      go_upto_region 15 with (fail)
      refine start_ (n := 20) (S := fun w' => w'.cell? ⟨gx, 3, none⟩ = some (.slice (some adA) x.f3.length c3) ∧ w'.cell? (adA.add (j * 2)) = some (.string y.f0) ∧ w'.cell? ⟨(adA.add (j * 2)).block, (adA.add (j * 2)).off + 1, none⟩ = some (.string y.f1)) (ds := []) #[false, false, false, false, false, false, false, false, false, false, false, false, false, false, false, false, false, false, false, false] (by kernel_rfl) rfl rfl ⟨k3, y0, y1⟩ (fun hHeld => ?_)
      have HB2 := Aside0.mk (HB.out.drew)
      have HX2 := Aside0.mk (show wr.drew.heap[gx]? = _ from HX.out)
      have HO2 := Aside0.mk (show OwnB wr.drew w0.heap.size u3 xs' from HO.out)
      have HK2 := Aside0.mk (show KeptU W wr.drew from HK.out.drew)
      clear HB HX HO HK k0 k1 k2 k3 k4 k5 y0 y1
      generalize wr.drew = w2 at HB2 HX2 HO2 HK2 hHeld ⊢
      refine pure_ (i := 0) (N := (some 68)) (v := ?_) (a' := ?_) #[true, false, false, false, false, false, false, false, false, false, false, false, false, false, false, false, false, false, false, false] rfl rfl (by kernel_rfl) (fun _ _ _ h => h) (Or.inl ⟨by rfl, ?_⟩) ?_ ?_
      rotate_left
      · intro w'
        go_simp
        with_reducible rfl
      rotate_left
      · simp only [Act.put, List.setIfInBounds_toArray, List.set_cons_zero, List.set_cons_succ, i64_w, i32_w]
        rfl
      refine pure_ (i := 1) (N := (some 69)) (v := ?_) (a' := ?_) #[true, true, false, false, false, false, false, false, false, false, false, false, false, false, false, false, false, false, false, false] rfl rfl (by kernel_rfl) (fun _ _ _ h => h) (Or.inl ⟨by rfl, ?_⟩) ?_ ?_
      rotate_left
      · intro w'
        go_simp
        with_reducible rfl
      rotate_left
      · simp only [Act.put, List.setIfInBounds_toArray, List.set_cons_zero, List.set_cons_succ, i64_w, i32_w]
        rfl
      refine take_ (i := 2) (N := (some 70)) (v := ?_) (a' := ?_) #[true, true, true, false, false, false, false, false, false, false, false, false, false, false, false, false, false, false, false, false] rfl rfl (by kernel_rfl) (fun _ _ _ h => h) (Or.inl ⟨by rfl, ?_⟩) hHeld ?_ ?_
      rotate_left
      · rintro w' ⟨h1, h2, h3⟩
        go_simp
        with_reducible rfl
      rotate_left
      · simp only [Act.put, List.setIfInBounds_toArray, List.set_cons_zero, List.set_cons_succ, i64_w, i32_w]
        rfl
      refine pure_ (i := 3) (N := (some 71)) (v := ?_) (a' := ?_) #[true, true, true, true, false, false, false, false, false, false, false, false, false, false, false, false, false, false, false, false] rfl rfl (by kernel_rfl) (fun _ _ _ h => h) (Or.inl ⟨by rfl, ?_⟩) ?_ ?_
      rotate_left
      · intro w'
        go_simp
        with_reducible rfl
      rotate_left
      · simp only [Act.put, List.setIfInBounds_toArray, List.set_cons_zero, List.set_cons_succ, i64_w, i32_w]
        rfl
      refine pure_ (i := 4) (N := (some 72)) (v := ?_) (a' := ?_) #[true, true, true, true, true, false, false, false, false, false, false, false, false, false, false, false, false, false, false, false] rfl rfl (by kernel_rfl) (fun _ _ _ h => h) (Or.inl ⟨by rfl, ?_⟩) ?_ ?_
      rotate_left
      · intro w'
        go_simp
        with_reducible rfl
      rotate_left
      · simp only [Act.put, List.setIfInBounds_toArray, List.set_cons_zero, List.set_cons_succ, i64_w, i32_w]
        rfl
      refine pure_ (i := 5) (N := (some 73)) (v := ?_) (a' := ?_) #[true, true, true, true, true, true, false, false, false, false, false, false, false, false, false, false, false, false, false, false] rfl rfl (by kernel_rfl) (fun _ _ _ h => h) (Or.inl ⟨by rfl, ?_⟩) ?_ ?_
      rotate_left
      · intro w'
        go_simp
        with_reducible rfl
      rotate_left
      · simp only [Act.put, List.setIfInBounds_toArray, List.set_cons_zero, List.set_cons_succ, i64_w, i32_w]
        rfl
      refine take_ (i := 6) (N := (some 74)) (v := ?_) (a' := ?_) #[true, true, true, true, true, true, true, false, false, false, false, false, false, false, false, false, false, false, false, false] rfl rfl (by kernel_rfl) (fun _ _ _ h => h) (Or.inl ⟨by rfl, ?_⟩) hHeld ?_ ?_
      rotate_left
      · rintro w' ⟨h1, h2, h3⟩
        go_simp
        with_reducible rfl
      rotate_left
      · simp only [Act.put, List.setIfInBounds_toArray, List.set_cons_zero, List.set_cons_succ, i64_w, i32_w]
        rfl
      refine pure_ (i := 7) (N := (some 75)) (v := ?_) (a' := ?_) #[true, true, true, true, true, true, true, true, false, false, false, false, false, false, false, false, false, false, false, false] rfl rfl (by kernel_rfl) (fun _ _ _ h => h) (Or.inl ⟨by rfl, ?_⟩) ?_ ?_
      rotate_left
      · intro w'
        go_simp
        with_reducible rfl
      rotate_left
      · simp only [Act.put, List.setIfInBounds_toArray, List.set_cons_zero, List.set_cons_succ, i64_w, i32_w]
        rfl
      refine pure_ (i := 8) (N := (some 76)) (v := ?_) (a' := ?_) #[true, true, true, true, true, true, true, true, true, false, false, false, false, false, false, false, false, false, false, false] rfl rfl (by kernel_rfl) (fun _ _ _ h => h) (Or.inl ⟨by rfl, ?_⟩) ?_ ?_
      rotate_left
      · intro w'
        go_simp
        with_reducible rfl
      rotate_left
      · simp only [Act.put, List.setIfInBounds_toArray, List.set_cons_zero, List.set_cons_succ, i64_w, i32_w]
        rfl
      refine pure_ (i := 9) (N := (some 77)) (v := ?_) (a' := ?_) #[true, true, true, true, true, true, true, true, true, true, false, false, false, false, false, false, false, false, false, false] rfl rfl (by kernel_rfl) (fun _ _ _ h => h) (Or.inl ⟨by rfl, ?_⟩) ?_ ?_
      rotate_left
      · intro w'
        go_simp
        with_reducible rfl
      rotate_left
      · simp only [Act.put, List.setIfInBounds_toArray, List.set_cons_zero, List.set_cons_succ, i64_w, i32_w]
        rfl
      refine take_ (i := 10) (N := (some 78)) (v := ?_) (a' := ?_) #[true, true, true, true, true, true, true, true, true, true, true, false, false, false, false, false, false, false, false, false] rfl rfl (by kernel_rfl) (fun _ _ _ h => h) (Or.inl ⟨by rfl, ?_⟩) hHeld ?_ ?_
      rotate_left
      · rintro w' ⟨h1, h2, h3⟩
        go_simp
        with_reducible rfl
      rotate_left
      · simp only [Act.put, List.setIfInBounds_toArray, List.set_cons_zero, List.set_cons_succ, i64_w, i32_w]
        rfl
      refine pure_ (i := 11) (N := (some 79)) (v := ?_) (a' := ?_) #[true, true, true, true, true, true, true, true, true, true, true, true, false, false, false, false, false, false, false, false] rfl rfl (by kernel_rfl) (fun _ _ _ h => h) (Or.inl ⟨by rfl, ?_⟩) ?_ ?_
      rotate_left
      · intro w'
        go_simp
        with_reducible rfl
      rotate_left
      · simp only [Act.put, List.setIfInBounds_toArray, List.set_cons_zero, List.set_cons_succ, i64_w, i32_w]
        rfl
      refine pure_ (i := 12) (N := (some 80)) (v := ?_) (a' := ?_) #[true, true, true, true, true, true, true, true, true, true, true, true, true, false, false, false, false, false, false, false] rfl rfl (by kernel_rfl) (fun _ _ _ h => h) (Or.inl ⟨by rfl, ?_⟩) ?_ ?_
      rotate_left
      · intro w'
        go_simp
        with_reducible rfl
      rotate_left
      · simp only [Act.put, List.setIfInBounds_toArray, List.set_cons_zero, List.set_cons_succ, i64_w, i32_w]
        rfl
      refine pure_ (i := 13) (N := (some 81)) (v := ?_) (a' := ?_) #[true, true, true, true, true, true, true, true, true, true, true, true, true, true, false, false, false, false, false, false] rfl rfl (by kernel_rfl) (fun _ _ _ h => h) (Or.inl ⟨by rfl, ?_⟩) ?_ ?_
      rotate_left
      · intro w'
        go_simp
        with_reducible rfl
      rotate_left
      · simp only [Act.put, List.setIfInBounds_toArray, List.set_cons_zero, List.set_cons_succ, i64_w, i32_w]
        rfl
      refine take_ (i := 14) (N := (some 82)) (v := ?_) (a' := ?_) #[true, true, true, true, true, true, true, true, true, true, true, true, true, true, true, false, false, false, false, false] rfl rfl (by kernel_rfl) (fun _ _ _ h => h) (Or.inl ⟨by rfl, ?_⟩) hHeld ?_ ?_
      rotate_left
      · rintro w' ⟨h1, h2, h3⟩
        go_simp
        with_reducible rfl
      rotate_left
      · simp only [Act.put, List.setIfInBounds_toArray, List.set_cons_zero, List.set_cons_succ, i64_w, i32_w]
        rfl
      refine one_ (i := 15) (N := (some 83)) #[true, true, true, true, true, true, true, true, true, true, true, true, true, true, true, true, false, false, false, false] rfl rfl (by kernel_rfl) (by decide) (fun K hK => ?_)
      refine call_ (35) #[.string y.f1] (by rfl) rfl (by first | (go_simp; done) | (go_simp; rfl)) ?_
      refine (spec_EscapeValue.calls kE y.f1 z _ KE.out).mono ?_
      rintro e w3 ⟨rfl, hb⟩
      refine ⟨_, rfl, ?_⟩
      have HB3 := Aside0.mk (below_step HB2.out hb)
      have HO3 := Aside0.mk (OwnB.below HO2.out hb)
      have HK3 := Aside0.mk (HK2.out.trans (kept_below hb))
      have HX3 := Aside0.mk ((kept_below hb).blk HX2.out (by decide))
      have hS3 : (fun w' => w'.cell? ⟨gx, 3, none⟩ = some (.slice (some adA) x.f3.length c3) ∧ w'.cell? (adA.add (j * 2)) = some (.string y.f0) ∧ w'.cell? ⟨(adA.add (j * 2)).block, (adA.add (j * 2)).off + 1, none⟩ = some (.string y.f1)) w3 := ⟨(blk_cell HX3.out 3).trans rfl, (HB3.out.cell (World.block_lt_of_cell? w0 _ Y0.out)).trans Y0.out, (HB3.out.cell (World.block_lt_of_cell? w0 _ Y1.out)).trans Y1.out⟩
      clear hb
      refine hK.out _ _ hS3 (fun hHeld => ?_)
      clear hK K
      refine norm_ (a' := ?_) ?_ ?_
      rotate_left
      · show Act.put _ (some 83) _ = _
        simp only [Act.put, List.setIfInBounds_toArray, List.set_cons_zero, List.set_cons_succ, i64_w, i32_w]
        rfl
      refine pure_ (i := 16) (N := (some 84)) (v := ?_) (a' := ?_) #[true, true, true, true, true, true, true, true, true, true, true, true, true, true, true, true, true, false, false, false] rfl rfl (by kernel_rfl) (fun _ _ _ h => h) (Or.inl ⟨by rfl, ?_⟩) ?_ ?_
      rotate_left
      · intro w'
        go_simp
        with_reducible rfl
      rotate_left
      · simp only [Act.put, List.setIfInBounds_toArray, List.set_cons_zero, List.set_cons_succ, i64_w, i32_w]
        rfl
      refine pure_ (i := 17) (N := (some 85)) (v := ?_) (a' := ?_) #[true, true, true, true, true, true, true, true, true, true, true, true, true, true, true, true, true, true, false, false] rfl rfl (by kernel_rfl) (fun _ _ _ h => h) (Or.inl ⟨by rfl, ?_⟩) ?_ ?_
      rotate_left
      · intro w'
        go_simp
        with_reducible rfl
      rotate_left
      · simp only [Act.put, List.setIfInBounds_toArray, List.set_cons_zero, List.set_cons_succ, i64_w, i32_w]
        rfl
      refine one_ (i := 18) (N := (some 86)) #[true, true, true, true, true, true, true, true, true, true, true, true, true, true, true, true, true, true, true, false] rfl rfl (by kernel_rfl) (by decide) (fun K hK => ?_)
      refine append_str_step (w0 := w0) w0.heap.size (by rfl) (.tmp 68) (.tmp 85) 37 9 5 rfl Tryz.underlying37 Tryz.underlying9 (by kernel_rfl) u3 xs' ((((⟨#[32]⟩ : ByteArray) ++ y.f0 ++ (⟨#[61, 34]⟩ : ByteArray)) ++ z) ++ (⟨#[34]⟩ : ByteArray)) rfl rfl HO3.out HB3.out HB3.out.size (by rw [← EE.out]; exact Nat.le_trans HL4.out (by decide)) ?_
      intro v4 w4 ho4 hb4 hg4
      have HB4 := Aside0.mk hb4
      have HO4 := Aside0.mk ho4
      have HK4 := Aside0.mk (HK3.out.trans (kept_grown HO3.out hg4))
      have HX4 := Aside0.mk ((kept_grown HO3.out hg4).blk HX3.out (by decide))
      have hS4 : (fun w' => w'.cell? ⟨gx, 3, none⟩ = some (.slice (some adA) x.f3.length c3) ∧ w'.cell? (adA.add (j * 2)) = some (.string y.f0) ∧ w'.cell? ⟨(adA.add (j * 2)).block, (adA.add (j * 2)).off + 1, none⟩ = some (.string y.f1)) w4 := ⟨(blk_cell HX4.out 3).trans rfl, (HB4.out.cell (World.block_lt_of_cell? w0 _ Y0.out)).trans Y0.out, (HB4.out.cell (World.block_lt_of_cell? w0 _ Y1.out)).trans Y1.out⟩
      clear ho4 hb4 hg4
      refine hK.out _ _ hS4 (fun hHeld => ?_)
      clear hK K
      refine norm_ (a' := ?_) ?_ ?_
      rotate_left
      · show Act.put _ (some 86) _ = _
        simp only [Act.put, List.setIfInBounds_toArray, List.set_cons_zero, List.set_cons_succ, i64_w, i32_w]
        rfl
      refine pure_ (i := 19) (N := (some 3)) (v := ?_) (a' := ?_) #[true, true, true, true, true, true, true, true, true, true, true, true, true, true, true, true, true, true, true, true] rfl rfl (by kernel_rfl) (fun _ _ _ h => h) (Or.inl ⟨by rfl, ?_⟩) ?_ ?_
      rotate_left
      · intro w'
        go_simp
        with_reducible rfl
      rotate_left
      · simp only [Act.put, List.setIfInBounds_toArray, List.set_cons_zero, List.set_cons_succ, i64_w, i32_w]
        rfl
      refine done_ (by kernel_rfl) ?_
      go_wp2_with (fail)
      go_roundg d
      case measure => omega
      case rel => exact ⟨j + 1, _, rfl, ⟨by have := HJ.out; omega⟩, ⟨by rw [HE.out, List.append_assoc, ← bytes_app, ByteArray.append_assoc, HS.out, EE.out]⟩, HO4, HB4, HK4, HX4⟩
end Go.Proofs.YtjojmfhgfeflnaaGreatDoor.QFnExactInner
