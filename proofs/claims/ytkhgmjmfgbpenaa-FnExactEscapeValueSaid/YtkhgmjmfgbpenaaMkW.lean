/- strings.makeGenericReplacer, walked: the places of the bytes, the table, the keys put in. -/
import Derived.Test.YtkhgmjmfgbpenaaTrieW
namespace Go.Proofs.Ytkhgmjmfgbpenaa.Trie
open Go Go.RowKit Go.Proofs.YtkhgmjmfgbpenaaV.PrintWords Go.Proofs.YtkhgmjmfgbpenaaV.PrintLast Go.Proofs.YtkhgmjmfgbpenaaV.PrintMore
set_option linter.unusedVariables false
set_option linter.unusedSimpArgs false

abbrev strAt (L : List ByteArray) (i : Nat) : ByteArray := rdOf ByteArray.empty L (i : Int)
def byAt (s : ByteArray) (j : Nat) : Nat := (s.data.toList.getD j 0).toNat
/-- The bytes of the keys are marked. -/
def mkB (key : ByteArray) : Nat → List Int → List Int
  | 0, M => M
  | j + 1, M => (mkB key j M).set (byAt key j) 1
def mkA (L : List ByteArray) : Nat → List Int
  | 0 => List.replicate 256 0
  | q + 1 => mkB (strAt L (2 * q)) (strAt L (2 * q)).size (mkA L q)
theorem mkB_len (key : ByteArray) : ∀ j M, (mkB key j M).length = M.length
  | 0, M => rfl
  | j + 1, M => by unfold mkB; rw [List.length_set, mkB_len key j M]
theorem mkA_len (L : List ByteArray) : ∀ q, (mkA L q).length = 256
  | 0 => List.length_replicate
  | q + 1 => by unfold mkA; rw [mkB_len, mkA_len L q]
/-- How many bytes are marked. -/
def sumT (M : List Int) : Nat → Int
  | 0 => 0
  | i + 1 => wrap64 (sumT M i + wrap64 (M.getD i 0))
/-- The places of the marked bytes, in order; the others get the table's length. -/
def numM (M : List Int) (ts : Int) : Nat → List Int × Int
  | 0 => (M, 0)
  | i + 1 => if M.getD i 0 = 0 then ((numM M ts i).1.set i (IntKind.u8.wrap ts), (numM M ts i).2) else ((numM M ts i).1.set i (numM M ts i).2, IntKind.u8.wrap ((numM M ts i).2 + 1))
theorem numM_len (M : List Int) (ts : Int) : ∀ i, (numM M ts i).1.length = M.length
  | 0 => rfl
  | i + 1 => by
    unfold numM
    split
    · show ((numM M ts i).1.set _ _).length = _
      rw [List.length_set, numM_len M ts i]
    · show ((numM M ts i).1.set _ _).length = _
      rw [List.length_set, numM_len M ts i]
/-- The block of a replacer while it is made. -/
def rG (tbl : Value) (ts : Int) (M : List Int) : List Value := [.string eS, .int .i64 0, .string eS, .pointer none, tbl, .int .i64 ts] ++ M.map (Value.int .u8)
theorem rC_eq (gt ts : Nat) (M : List Int) : rC gt ts M = (rG (.slice (some ⟨gt, 0, none⟩) ts ts) ts M).toArray := rfl
theorem rG_map (tbl : Value) (ts : Int) (M : List Int) (i : Nat) (m : Int) : (rG tbl ts M).toArray.setIfInBounds (6 + i) (.int .u8 m) = (rG tbl ts (M.set i m)).toArray := by
  rw [List.setIfInBounds_toArray]
  unfold rG
  rw [List.set_append_right _ _ (by simp), show 6 + i - ([.string eS, .int .i64 0, .string eS, .pointer none, tbl, .int .i64 ts] : List Value).length = i by simp, List.map_set]
theorem rG_ts (tbl : Value) (ts : Int) (M : List Int) (m : Int) : (rG tbl ts M).toArray.setIfInBounds 5 (.int .i64 m) = (rG tbl m M).toArray := rfl
theorem rG_tbl (tbl tbl' : Value) (ts : Int) (M : List Int) : (rG tbl ts M).toArray.setIfInBounds 4 tbl' = (rG tbl' ts M).toArray := rfl
theorem rG_at {tbl : Value} {ts : Int} {M : List Int} {i : Nat} {m : Int} (h : M[i]? = some m) : (rG tbl ts M).toArray[6 + i]? = some (.int .u8 m) := by
  rw [List.getElem?_toArray]
  unfold rG
  rw [List.getElem?_append_right (by simp), show 6 + i - ([.string eS, .int .i64 0, .string eS, .pointer none, tbl, .int .i64 ts] : List Value).length = i by simp, List.getElem?_map, h]
  rfl
/-- The 256 cells behind the sixth are read as a whole. -/
theorem load_mid (w : World) (g off : Nat) (cs : List Value) (hl : cs.length = 256) (h : ∀ j v, cs[j]? = some v → w.cell? ⟨g, off + j, none⟩ = some v) : (loadVar 57 ⟨g, off, none⟩).run Try.prog w = .ok (.agg cs.toArray) w := by
  have hu : Try.prog.underlying 57 = some (.array 256 5) := Try.underlying57
  have hi : (Try.prog.info? 57).map (·.size) = some 256 := by kernel_rfl
  have hc : (loadCells ⟨g, off, none⟩ cs.length).run Try.prog w = .ok cs.toArray w :=
    run_loadCells_list (P := Try.prog) w ⟨g, off, none⟩ cs (fun j v hv => by
      have hadd : (⟨g, off, none⟩ : Addr).add j = ⟨g, off + j, none⟩ := by unfold Addr.add; split <;> simp_all
      rw [hadd]
      exact h j v hv)
  have hagg : (isAgg 57).run Try.prog w = .ok true w := by
    unfold isAgg
    rw [Sem.run_bind, run_underlying hu w]
    simp
  cases hq : Try.prog.info? 57 with
  | none => simp [hq] at hi
  | some i =>
    have hs : i.size = 256 := by simpa [hq] using hi
    rw [hl] at hc
    simp [loadVar, Sem.run_bind, hagg, sizeOf, typeInfo, hq, hs, hc]
theorem wpList_load_mid {ops : Array Oper} {rest : List Oper} {o : Oper} {a : Act} {w : World} {Q : Exit → Act → World → Prop} (hgd : o.guard = none) (x : Operand) (ho : o.op = .load 57 x)
    (g off : Nat) (hx : a.eval x = .pointer (some ⟨g, off, none⟩)) (cs : List Value) (hl : cs.length = 256) (hc : ∀ j v, cs[j]? = some v → w.cell? ⟨g, off + j, none⟩ = some v)
    (h : wpList Try.prog ops Q rest (a.put o.dst (.agg cs.toArray)) w) : wpList Try.prog ops Q (o :: rest) a w :=
  wpList_plain hgd fun K hK => by
    unfold Oper.wp execOp
    simp only [ho, hx, Instr.loadAt, Instr.sureAddr, Sem.run_bind, Sem.run_pure, Result.andThen_ok, load_mid w g off cs hl hc]
    exact hK _ _ h
theorem run_index_map (M : List Int) (hl : M.length = 256) (i : Nat) (hi : i < 256) (m : Int) (hm : M[i]? = some m) (w : World) : (Instr.index 57 (Value.agg (M.map (Value.int .u8)).toArray) (Value.int .i64 (i : Int))).run Try.prog w = .ok (Value.int .u8 m) w := by
  have hu : Try.prog.underlying 57 = some (.array 256 5) := Try.underlying57
  have hi5 : (Try.prog.info? 5).map (·.size) = some 1 := by kernel_rfl
  have hu5 := Try.underlying5
  cases hq : Try.prog.info? 5 with
  | none => simp [hq] at hi5
  | some z =>
    have hs : z.size = 1 := by simpa [hq] using hi5
    have h0 : (0 ≤ (i : Int) ∧ (i : Int) < 256) := by omega
    simp [Instr.index, run_underlying hu, asIntOf, Sem.run_bind, h0, part, isAgg, run_underlying hu5, sizeOf, typeInfo, hq, hs, hm, hl, go_sem]
    intro h
    omega
theorem make_tab (w : World) (tn : Nat) (h : tn ≤ 256) : (Instr.makeSlice 72 (.int .i64 (tn : Int)) (.int .i64 (tn : Int))).run Try.prog w = .ok (Value.slice (some ⟨w.heap.size, 0, none⟩) tn tn) (w.alloc (.cells (List.replicate tn (Value.pointer none)).toArray 71 (0, 0))) := by
  have hi : (Try.prog.info? 71).map (fun i => (i.zero, i.size, i.bytes)) = some (some (.pointer none), 1, 8) := by kernel_rfl
  obtain ⟨i0, h1, h2, h3, h4⟩ := info_parts hi
  have := run_makeSlice (P := Try.prog) w 72 71 i0 (.pointer none) Try.underlying72 h1 h2 .i64 .i64 (tn : Int) (tn : Int) (by omega) (by omega) (by rw [h3]; omega) (by rw [h4]; omega) (by omega)
  rw [this, h3]
  have e : madeCells (Value.cells (.pointer none)) ((tn : Int).toNat * 1) = (List.replicate tn (Value.pointer none)).toArray := by
    apply Array.ext
    · rw [size_madeCells]; simp
    · intro j _ _
      simp [madeCells, Value.cells, Nat.mod_one]
  rw [e, Int.toNat_natCast]
def keyS : Option UInt8 → ByteArray
  | some c => ⟨#[c]⟩
  | none => ⟨#[194, 160]⟩
def lead : Option UInt8 → Nat
  | some c => c.toNat
  | none => 194
def NodeP (W : World) : Option UInt8 → ByteArray → Int → Nat → Prop
  | some _, val, p, b => W.heap[b]? = some (.cells (nodeC val p eS none nilS) 74 (0, 0))
  | none, val, p, b => ∃ b3, W.heap[b]? = some (.cells (nodeC eS 0 ⟨#[160]⟩ (some ⟨b3, 0, none⟩) nilS) 74 (0, 0)) ∧ W.heap[b3]? = some (.cells (nodeC val p eS none nilS) 74 (0, 0))
theorem NodeP.chg {W W1 : World} {S : Nat → Prop} {k : Option UInt8} {val : ByteArray} {p : Int} {b : Nat} (h : NodeP W k val p b) (hc : Chg S W W1) (hs : ∀ g cs, W.heap[g]? = some (.cells cs 74 (0, 0)) → ¬ S g) : NodeP W1 k val p b := by
  cases k with
  | some c => exact hc.blk h (hs _ _ h)
  | none =>
    obtain ⟨b3, h1, h2⟩ := h
    exact ⟨b3, hc.blk h1 (hs _ _ h1), hc.blk h2 (hs _ _ h2)⟩
/-- What the table holds when the first q keys are in. -/
def TabP (W : World) (M : List Int) (ps : List (Option UInt8 × ByteArray)) (len q : Nat) (tv : List Value) : Prop :=
  ∀ m, m < tv.length → (tv[m]? = some (.pointer none) ∧ ∀ j p, j < q → ps[j]? = some p → M[lead p.1]? ≠ some (m : Int)) ∨
    ∃ j p b, j < q ∧ ps[j]? = some p ∧ M[lead p.1]? = some (m : Int) ∧ tv[m]? = some (.pointer (some ⟨b, 0, none⟩)) ∧ NodeP W p.1 p.2 ((len : Int) - (2 * j : Nat)) b
theorem TabP.chg {W W1 : World} {S : Nat → Prop} {M : List Int} {ps : List (Option UInt8 × ByteArray)} {len q : Nat} {tv : List Value} (h : TabP W M ps len q tv) (hc : Chg S W W1) (hs : ∀ g cs, W.heap[g]? = some (.cells cs 74 (0, 0)) → ¬ S g) : TabP W1 M ps len q tv := fun m hm => by
  rcases h m hm with h | ⟨j, p, b, h1, h2, h3, h4, h5⟩
  · exact .inl h
  · exact .inr ⟨j, p, b, h1, h2, h3, h4, h5.chg hc hs⟩
theorem TabP.put {W : World} {M : List Int} {ps : List (Option UInt8 × ByteArray)} {len q : Nat} {tv : List Value} (h : TabP W M ps len q tv) {p : Option UInt8 × ByteArray} (hp : ps[q]? = some p) {m b : Nat} (hm : M[lead p.1]? = some (m : Int)) (hml : m < tv.length)
    (hn : NodeP W p.1 p.2 ((len : Int) - (2 * q : Nat)) b) (hd : ∀ j p', j < q → ps[j]? = some p' → M[lead p'.1]? ≠ some (m : Int)) : TabP W M ps len (q + 1) (tv.set m (.pointer (some ⟨b, 0, none⟩))) := fun m' hm' => by
  rw [List.length_set] at hm'
  by_cases e : m' = m
  · subst e
    exact .inr ⟨q, p, b, Nat.lt_succ_self _, hp, hm, by rw [List.getElem?_set_self hm'], hn⟩
  · rw [List.getElem?_set_ne (fun x => e x.symm)]
    rcases h m' hm' with ⟨h1, h2⟩ | ⟨j, p', b', h1, h2, h3, h4, h5⟩
    · refine .inl ⟨h1, fun j p' hj hp' => ?_⟩
      by_cases ej : j = q
      · subst ej
        rw [hp] at hp'
        cases hp'
        rw [hm]
        intro x
        injection x with x
        omega
      · exact h2 j p' (by omega) hp'
    · exact .inr ⟨j, p', b', by omega, h2, h3, h4, h5⟩
/-- The pairs, and what must hold of the places of their bytes. -/
structure Pairs (L : List ByteArray) (M : List Int) (tn np : Nat) (ps : List (Option UInt8 × ByteArray)) : Prop where
  len : ps.length = np
  two : L.length = 2 * np
  small : np ≤ 400
  key : ∀ (j : Nat) p, ps[j]? = some p → strAt L (2 * j) = keyS p.1
  val : ∀ (j : Nat) p, ps[j]? = some p → strAt L (2 * j + 1) = p.2
  inn : ∀ (j : Nat) p, ps[j]? = some p → ∃ m : Nat, m < tn ∧ M[lead p.1]? = some (m : Int)
  apart : ∀ (j j' : Nat) p p', ps[j]? = some p → ps[j']? = some p' → M[lead p.1]? = M[lead p'.1]? → j = j'
set_option maxRecDepth 100000 in
set_option maxHeartbeats 8000000 in
theorem mk_calls (w : World) (A : Option Addr) (c : Nat) (L : List ByteArray) (hr : Kd.string.C w A L.length L) (hc : L.length ≤ c) (hl : L.length ≤ 1000) (np : Nat) (h2 : L.length = 2 * np) (hk : ∀ i, i < L.length → (strAt L i).size ≤ 1000) (tn : Nat) (hts : sumT (mkA L np) 256 = (tn : Int)) (htn : tn ≤ 256) (ps : List (Option UInt8 × ByteArray)) (hp : ∀ M, M = (numM (mkA L np) (tn : Int) 256).1 → Pairs L M tn np ps) :
    Calls Try.prog 22 #[.slice A L.length c] w fun e w' => ∃ gr gt tv M, e = .returned (.pointer (some ⟨gr, 0, none⟩)) ∧ Below w.heap.size w w' ∧ w.heap.size ≤ gr ∧ w.heap.size ≤ gt ∧ M = (numM (mkA L np) (tn : Int) 256).1 ∧ w'.heap[gr]? = some (.cells (rC gt tn M) 76 (0, 0)) ∧ w'.heap[gt]? = some (.cells tv.toArray 71 (0, 0)) ∧ tv.length = tn ∧ TabP w' M ps L.length np tv := by
  have HR := Aside0.mk hr
  have HC := Aside0.mk hc
  have HL := Aside0.mk hl
  have H2 := Aside0.mk h2
  have HK := Aside0.mk hk
  have HTS0 := Aside0.mk hts
  have HTN := Aside0.mk htn
  have HP0 : ∀ M, M = (numM (mkA L np) (tn : Int) 256).1 → Pairs L M tn np ps := hp
  clear hp
  replace HP0 := Aside0.mk HP0
  clear hr hc hl h2 hk hts htn
  go_enter Try.func22, Try.ntmps22
  go_wp2_with (first
    | ((with_reducible refine gate_dst (N := 13) rfl ?_); refine box_event ?hg (N := 13) ?hd (cs := (rG nilS 0 (List.replicate 256 0)).toArray) (t := 76) ?hr ?_; (case hd => rfl); (case hg => rfl); (case hr => first | (go_simp; done) | (go_simp; rfl)); intro gr hgr w1 hbox hbel; have HG := Aside0.mk (show w.heap.size ≤ gr from by rw [hgr]; exact Nat.le_refl _); have HB1 := Aside0.mk hbel; have HX1 := Aside0.mk hbox; clear hgr hbox hbel))
  go_loopg [4] np (fun kq v4 w' => ∃ (i q : Nat), v4 = .int .i64 (i : Int) ∧ Aside0 (i = 2 * q) ∧ Aside0 (kq + q = np) ∧ Aside0 (Below w.heap.size w w') ∧ Aside0 (w'.heap[gr]? = some (.cells (rG nilS 0 (mkA L q)).toArray 76 (0, 0))))
  case atStart => exact ⟨0, 0, rfl, ⟨rfl⟩, ⟨by omega⟩, HB1, HX1⟩
  case round =>
    clear HB1 HX1
    obtain ⟨i, q, rfl, HI, HQ, HB, HX⟩ := hrel
    by_cases hq : q < np
    · have dj : decide ((i : Int) < (L.length : Int)) = true := decide_eq_true (by have := H2.out; have := HI.out; omega)
      have dj2 : decide (i < L.length) = true := decide_eq_true (by have := H2.out; have := HI.out; omega)
      have p5 : (0 ≤ (i : Int)) = True := eq_true (by omega)
      have q5 : ((i : Int) < (L.length : Int)) = True := eq_true (by have := H2.out; have := HI.out; omega)
      have hw2 : wrap64 ((i : Int) + 2) = ((i + 2 : Nat) : Int) := by have := H2.out; have := HI.out; have := HL.out; unfold wrap64; omega
      obtain ⟨ad, eA, hx⟩ := Kd.at_string (Kd.C_below HR.out HB.out) (i : Int) (by omega) (by have := H2.out; have := HI.out; omega)
      subst eA
      rw [Int.toNat_natCast] at hx
      obtain ⟨key, ek⟩ : ∃ key, key = strAt L (2 * q) := ⟨_, rfl⟩
      rw [show rdOf ByteArray.empty L (i : Int) = key from by rw [ek, HI.out]] at hx
      have HKS := Aside0.mk (show key.size ≤ 1000 from by rw [ek]; exact HK.out _ (by have := H2.out; omega))
      have EK := Aside0.mk ek
      have QQ := Aside0.mk hq
      clear hq ek
      go_wp2_with (fail)
      clear dj dj2 p5 q5 hx
      go_loopg [6] key.size (fun kq v6 w' => ∃ (j : Nat), v6 = .int .i64 (j : Int) ∧ Aside0 (kq + j = key.size) ∧ Aside0 (Below w.heap.size w w') ∧ Aside0 (w'.heap[gr]? = some (.cells (rG nilS 0 (mkB key j (mkA L q))).toArray 76 (0, 0))))
      case atStart => exact ⟨0, rfl, ⟨by omega⟩, HB, HX⟩
      case round =>
        clear HB HX
        obtain ⟨j, rfl, HJ, HB, HX⟩ := hrel
        by_cases hj : j < key.size
        · have dj : decide ((j : Int) < (key.size : Int)) = true := decide_eq_true (by omega)
          have dj2 : decide (j < key.size) = true := decide_eq_true hj
          have p5 : (0 ≤ (j : Int)) = True := eq_true (by omega)
          have q5 : ((j : Int) < (key.size : Int)) = True := eq_true (by omega)
          have hwj : wrap64 ((j : Int) + 1) = ((j + 1 : Nat) : Int) := by have := HKS.out; unfold wrap64; omega
          obtain ⟨x, ex⟩ : ∃ x : UInt8, x = key[j] := ⟨_, rfl⟩
          have ec : ∀ h, (key[(j : Int).toNat]'h) = x := fun _ => ex.symm
          have ec2 : ∀ h, (key[j]'h) = x := fun _ => ex.symm
          have EB := Aside0.mk (show byAt key j = x.toNat from by rw [ex]; unfold byAt; rw [List.getD_eq_getElem?_getD]; exact congrArg UInt8.toNat (by rw [List.getElem?_eq_getElem (by simpa using hj)]; rfl))
          have hcl := x.toNat_lt
          have c1 : ((x.toNat : Int) < 256) = True := eq_true (by omega)
          have c2 : (x.toNat < 256) = True := eq_true (by omega)
          have hX : ∃ v, wr.cell? ⟨gr, 6 + x.toNat, none⟩ = some v := ⟨_, (blk_cell HX.out _).trans (rG_at (List.getElem?_eq_getElem (by rw [mkB_len, mkA_len]; omega)))⟩
          obtain ⟨v0, hX⟩ := hX
          have fX := blk_frozen HX.out (6 + x.toNat)
          have JJ := Aside0.mk hj
          clear ex hj
          go_wp2_with (fail)
          go_still_tail 7, (by kernel_rfl)
          change wpList _ _ _ _ _ wr.drew
          have HB2 := Aside0.mk (below_drew1 HB.out)
          have HX2 := Aside0.mk (blk_drew HX.out)
          replace hX : wr.drew.cell? ⟨gr, 6 + x.toNat, none⟩ = some v0 := hX
          replace fX : wr.drew.frozen? ⟨gr, 6 + x.toNat, none⟩ = false := fX
          clear HB HX
          generalize wr.drew = w2 at HB2 HX2 hX fX ⊢
          go_wp2_with (first
            | ((with_reducible refine gate_store (t := 5) (p := 36) rfl ?_); refine store_event (t := 5) (p := 36) (v := ?vo3) (w1 := w2.setCell ⟨gr, 6 + x.toNat, none⟩ (.int .u8 1)) ?hg ?ho ?hn ?hr ?_; (case ho => rfl); (case hg => rfl); (case hn => rfl); (case hr => first | (go_simp; done) | (go_simp; rfl)); intro w3 hw3; have HB3 := Aside0.mk (show Below w.heap.size w w3 from by rw [hw3]; exact below_set HB2.out HG.out); have HX3 := Aside0.mk (show w3.heap[gr]? = some (.cells (rG nilS 0 (mkB key (j + 1) (mkA L q))).toArray 76 (0, 0)) from by rw [hw3]; refine blk_put HX2.out _ _ ?_; rw [rG_map]; show _ = (rG nilS 0 ((mkB key j (mkA L q)).set (byAt key j) 1)).toArray; rw [EB.out]); clear hw3 hX fX HB2 HX2))
          go_roundg (key.size - j - 1)
          case measure => have := HJ.out; have := JJ.out; omega
          case rel => exact ⟨j + 1, by rw [hwj], ⟨by have := HJ.out; have := JJ.out; omega⟩, HB3, HX3⟩
        · have dj : decide ((j : Int) < (key.size : Int)) = false := decide_eq_false (by omega)
          have dj2 : decide (j < key.size) = false := decide_eq_false hj
          have ej : j = key.size := by have := HJ.out; omega
          subst ej
          clear dj2
          go_wp2_with (fail)
          go_roundg (np - q - 1)
          case measure => have := HQ.out; have := QQ.out; omega
          case rel => exact ⟨i + 2, q + 1, by rw [hw2], ⟨by have := HI.out; omega⟩, ⟨by have := HQ.out; have := QQ.out; omega⟩, HB, ⟨by have := HX.out; rw [EK.out] at this; exact this⟩⟩
    · have dj : decide ((i : Int) < (L.length : Int)) = false := decide_eq_false (by have := H2.out; have := HI.out; omega)
      have dj2 : decide (i < L.length) = false := decide_eq_false (by have := H2.out; have := HI.out; omega)
      have eq_ : q = np := by have := HQ.out; omega
      have HX1 := Aside0.mk (show wr.heap[gr]? = some (.cells (rG nilS 0 (mkA L np)).toArray 76 (0, 0)) from by rw [← eq_]; exact HX.out)
      obtain ⟨M1, eM⟩ : ∃ M1, M1 = mkA L np := ⟨_, rfl⟩
      rw [← eM] at HX1
      have EM := Aside0.mk eM
      have LM := Aside0.mk (show M1.length = 256 from by rw [eM]; exact mkA_len L np)
      clear eM eq_ HX HI HQ hq
      go_wp2_with (first
        | ((with_reducible refine gate_dst (N := 40) rfl ?_); refine wpList_load_mid rfl (.tmp 39) rfl gr 6 rfl (M1.map (Value.int .u8)) (by rw [List.length_map]; exact LM.out) (fun j v hv => by rw [List.getElem?_map] at hv; cases hm : M1[j]? with | none => rw [hm] at hv; cases hv | some m => rw [hm] at hv; cases hv; exact (blk_cell HX1.out _).trans (rG_at hm)) ?_))
      go_loopg [41] 256 (fun kq v41 w' => ∃ (i : Nat), v41 = .int .i64 (i : Int) ∧ Aside0 (kq + i = 256) ∧ Aside0 (Below w.heap.size w w') ∧ Aside0 (w'.heap[gr]? = some (.cells (rG nilS (sumT M1 i) M1).toArray 76 (0, 0))))
      case atStart => exact ⟨0, rfl, ⟨by omega⟩, HB, HX1⟩
      case round =>
        clear HB HX1
        obtain ⟨i, rfl, HI, HB, HX⟩ := hrel
        by_cases hi : i < 256
        · have dj : decide ((i : Int) < 256) = true := decide_eq_true (by omega)
          have dj2 : decide (i < 256) = true := decide_eq_true hi
          have hwi : wrap64 ((i : Int) + 1) = ((i + 1 : Nat) : Int) := by unfold wrap64; omega
          obtain ⟨m, em⟩ : ∃ m, M1[i]? = some m := ⟨_, List.getElem?_eq_getElem (by rw [LM.out]; exact hi)⟩
          have hix := run_index_map M1 LM.out i hi m em
          have h5 : wr.cell? ⟨gr, 5, none⟩ = some (.int .i64 (sumT M1 i)) := (blk_cell HX.out 5).trans rfl
          have f5 := blk_frozen HX.out 5
          have EM2 := Aside0.mk em
          clear em
          go_wp2_with (first
            | ((with_reducible refine gate_store (t := 3) (p := 52) rfl ?_); refine store_event (t := 3) (p := 52) (v := ?vo4) (w1 := wr.setCell ⟨gr, 5, none⟩ (.int .i64 (wrap64 (sumT M1 i + wrap64 m)))) ?hg ?ho ?hn ?hr ?_; (case ho => rfl); (case hg => rfl); (case hn => rfl); (case hr => first | (go_simp; done) | (go_simp; rfl)); intro w3 hw3; have HB3 := Aside0.mk (show Below w.heap.size w w3 from by rw [hw3]; exact below_set HB.out HG.out); have HX3 := Aside0.mk (show w3.heap[gr]? = some (.cells (rG nilS (sumT M1 (i + 1)) M1).toArray 76 (0, 0)) from by rw [hw3]; refine blk_put HX.out _ _ ?_; rw [rG_ts]; show _ = (rG nilS (wrap64 (sumT M1 i + wrap64 (M1.getD i 0))) M1).toArray; rw [List.getD_eq_getElem?_getD, EM2.out]; rfl); clear hw3 h5 f5 HB HX))
          go_roundg (256 - i - 1)
          case measure => have := HI.out; omega
          case rel => exact ⟨i + 1, congrArg (Value.int .i64) (by omega), ⟨by have := HI.out; omega⟩, HB3, HX3⟩
        · have dj : decide ((i : Int) < 256) = false := decide_eq_false (by omega)
          have dj2 : decide (i < 256) = false := decide_eq_false hi
          have ei : i = 256 := by have := HI.out; omega
          have HX1 := Aside0.mk (show wr.heap[gr]? = some (.cells (rG nilS (sumT M1 256) M1).toArray 76 (0, 0)) from by rw [← ei]; exact HX.out)
          obtain ⟨ts, et⟩ : ∃ ts, ts = sumT M1 256 := ⟨_, rfl⟩
          rw [← et] at HX1
          have ET := Aside0.mk et
          have HTS := Aside0.mk (show sumT M1 256 = (tn : Int) from by rw [EM.out]; exact HTS0.out)
          clear et ei HX HI hi
          go_wp2_with (first
            | ((with_reducible refine gate_dst (N := 57) rfl ?_); refine wpList_load_mid rfl (.tmp 56) rfl gr 6 rfl (M1.map (Value.int .u8)) (by rw [List.length_map]; exact LM.out) (fun j v hv => by rw [List.getElem?_map] at hv; cases hm : M1[j]? with | none => rw [hm] at hv; cases hv | some m => rw [hm] at hv; cases hv; exact (blk_cell HX1.out _).trans (rG_at hm)) ?_))
          clear dj dj2
          go_loopg [58, 9] 256 (fun kq v58 v9 w' => ∃ (i : Nat), v58 = .int .i64 (i : Int) ∧ Aside0 (kq + i = 256) ∧ v9 = .int .u8 (numM M1 ts i).2 ∧ Aside0 (Below w.heap.size w w') ∧ Aside0 (w'.heap[gr]? = some (.cells (rG nilS ts (numM M1 ts i).1).toArray 76 (0, 0))))
          case atStart => exact ⟨0, rfl, ⟨by omega⟩, rfl, HB, HX1⟩
          case round =>
            clear HB HX1
            obtain ⟨i, rfl, HI, rfl, HB, HX⟩ := hrel
            by_cases hi : i < 256
            · have dj : decide ((i : Int) < 256) = true := decide_eq_true (by omega)
              have dj2 : decide (i < 256) = true := decide_eq_true hi
              have hwi : wrap64 ((i : Int) + 1) = ((i + 1 : Nat) : Int) := by unfold wrap64; omega
              obtain ⟨m, em⟩ : ∃ m, M1[i]? = some m := ⟨_, List.getElem?_eq_getElem (by rw [LM.out]; exact hi)⟩
              have hix := run_index_map M1 LM.out i hi m em
              obtain ⟨M, eM⟩ : ∃ M, M = (numM M1 ts i).1 := ⟨_, rfl⟩
              obtain ⟨x, ex⟩ : ∃ x, x = (numM M1 ts i).2 := ⟨_, rfl⟩
              rw [← ex]
              rw [← eM] at HX
              have LM2 := Aside0.mk (show M.length = 256 from by rw [eM, numM_len]; exact LM.out)
              have h5 : wr.cell? ⟨gr, 5, none⟩ = some (.int .i64 ts) := (blk_cell HX.out 5).trans rfl
              obtain ⟨v0, hX⟩ : ∃ v, wr.cell? ⟨gr, 6 + i, none⟩ = some v := ⟨_, (blk_cell HX.out _).trans (rG_at (List.getElem?_eq_getElem (by rw [LM2.out]; exact hi)))⟩
              have fX := blk_frozen HX.out (6 + i)
              have p5 : (0 ≤ (i : Int)) = True := eq_true (by omega)
              have q5 : ((i : Int) < 256) = True := eq_true (by omega)
              have EM2 := Aside0.mk em
              have EE := Aside0.mk (And.intro eM ex)
              have II := Aside0.mk hi
              clear em eM ex hi
              by_cases hm0 : m = 0
              · subst hm0
                go_wp2_with (fail)
                go_still_tail 10, (by kernel_rfl)
                change wpList _ _ _ _ _ wr.drew
                have HB2 := Aside0.mk (below_drew1 HB.out)
                have HX2 := Aside0.mk (blk_drew HX.out)
                replace hX : wr.drew.cell? ⟨gr, 6 + i, none⟩ = some v0 := hX
                replace fX : wr.drew.frozen? ⟨gr, 6 + i, none⟩ = false := fX
                clear HB HX h5
                generalize wr.drew = w2 at HB2 HX2 hX fX ⊢
                go_wp2_with (first
                  | ((with_reducible refine gate_store (t := 5) (p := 73) rfl ?_); refine store_event (t := 5) (p := 73) (v := ?vo5) (w1 := w2.setCell ⟨gr, 6 + i, none⟩ (.int .u8 (IntKind.u8.wrap ts))) ?hg ?ho ?hn ?hr ?_; (case ho => rfl); (case hg => rfl); (case hn => rfl); (case hr => first | (go_simp; done) | (go_simp; rfl)); intro w3 hw3; have HB3 := Aside0.mk (show Below w.heap.size w w3 from by rw [hw3]; exact below_set HB2.out HG.out); have HX3 := Aside0.mk (show w3.heap[gr]? = some (.cells (rG nilS ts (M.set i (IntKind.u8.wrap ts))).toArray 76 (0, 0)) from by rw [hw3]; exact blk_put HX2.out _ _ (rG_map _ _ _ _ _)); clear hw3 hX fX HB2 HX2))
                have NE := Aside0.mk (show numM M1 ts (i + 1) = (M.set i (IntKind.u8.wrap ts), x) from by rw [EE.out.1, EE.out.2]; exact if_pos (by rw [List.getD_eq_getElem?_getD, EM2.out]; rfl))
                go_roundg (256 - i - 1)
                case measure => have := HI.out; have := II.out; omega
                case rel => exact ⟨i + 1, congrArg (Value.int .i64) (by omega), ⟨by have := HI.out; have := II.out; omega⟩, by rw [NE.out], HB3, ⟨by rw [NE.out]; exact HX3.out⟩⟩
              · have hm1 : (m == 0) = false := beq_eq_false_iff_ne.mpr hm0
                go_wp2_with (first
                  | ((with_reducible refine gate_store (t := 5) (p := 79) rfl ?_); refine store_event (t := 5) (p := 79) (v := ?vo6) (w1 := wr.setCell ⟨gr, 6 + i, none⟩ (.int .u8 x)) ?hg ?ho ?hn ?hr ?_; (case ho => rfl); (case hg => rfl); (case hn => rfl); (case hr => first | (go_simp; done) | (go_simp; rfl)); intro w3 hw3; have HB3 := Aside0.mk (show Below w.heap.size w w3 from by rw [hw3]; exact below_set HB.out HG.out); have HX3 := Aside0.mk (show w3.heap[gr]? = some (.cells (rG nilS ts (M.set i x)).toArray 76 (0, 0)) from by rw [hw3]; exact blk_put HX.out _ _ (rG_map _ _ _ _ _)); clear hw3 hX fX h5 HB HX))
                have NE := Aside0.mk (show numM M1 ts (i + 1) = (M.set i x, IntKind.u8.wrap (x + 1)) from by rw [EE.out.1, EE.out.2]; exact if_neg (by rw [List.getD_eq_getElem?_getD, EM2.out]; exact hm0))
                go_roundg (256 - i - 1)
                case measure => have := HI.out; have := II.out; omega
                case rel => exact ⟨i + 1, congrArg (Value.int .i64) (by omega), ⟨by have := HI.out; have := II.out; omega⟩, by rw [NE.out]; exact congrArg (Value.int .u8) (IntKind.wrap_u8 _).symm, HB3, ⟨by rw [NE.out]; exact HX3.out⟩⟩
            · have dj : decide ((i : Int) < 256) = false := decide_eq_false (by omega)
              have dj2 : decide (i < 256) = false := decide_eq_false hi
              have ei : i = 256 := by have := HI.out; omega
              have HX1 := Aside0.mk (show wr.heap[gr]? = some (.cells (rG nilS ts (numM M1 ts 256).1).toArray 76 (0, 0)) from by rw [← ei]; exact HX.out)
              clear ei HX HI hi
              have ETN := ET.out.trans HTS.out
              subst ETN
              clear ET
              have h5 : wr.cell? ⟨gr, 5, none⟩ = some (.int .i64 tn) := (blk_cell HX1.out 5).trans rfl
              obtain ⟨Mf, eMf⟩ : ∃ Mf, Mf = (numM M1 (tn : Int) 256).1 := ⟨_, rfl⟩
              rw [← eMf] at HX1
              have EF := Aside0.mk (show Mf = (numM (mkA L np) (tn : Int) 256).1 from by rw [eMf, EM.out])
              clear eMf
              go_wp2_with (first
                | ((with_reducible refine gate_dst (N := 88) rfl ?_); refine Kd.event_run (v := .slice (some ⟨wr.heap.size, 0, none⟩) tn tn) (w1 := wr.alloc (.cells (List.replicate tn (Value.pointer none)).toArray 71 (0, 0))) rfl ?hs88 ?_; (case hs88 => first | (have := make_tab wr tn HTN.out; unfold execOp; simp [this, Result.andThen]; done) | (show (Instr.makeSlice 72 (.int .i64 (tn : Int)) (.int .i64 (tn : Int)) >>= fun a => pure (Next.value a)).run Try.prog wr = _; rw [Sem.run_bind, make_tab wr tn HTN.out]; rfl)); have HT1 := Aside0.mk (blk_new wr (.cells (List.replicate tn (Value.pointer none)).toArray 71 (0, 0))); have HB1 := Aside0.mk (below_alloc HB.out (.cells (List.replicate tn (Value.pointer none)).toArray 71 (0, 0))); have HX2 := Aside0.mk (blk_alloc HX1.out (.cells (List.replicate tn (Value.pointer none)).toArray 71 (0, 0))); obtain ⟨gt, egt⟩ : ∃ gt, gt = wr.heap.size := ⟨_, rfl⟩; have GT := Aside0.mk (show w.heap.size ≤ gt from by rw [egt]; exact HB.out.size); rw [← egt] at HT1 ⊢; clear egt HB h5 HX1; generalize wr.alloc (.cells (List.replicate tn (Value.pointer none)).toArray 71 (0, 0)) = w2 at HB1 HX2 HT1 ⊢; have h4 : w2.cell? ⟨gr, 4, none⟩ = some nilS := (blk_cell HX2.out 4).trans rfl; have f4 := blk_frozen HX2.out 4)
                | ((with_reducible refine gate_store (t := 72) (p := 91) rfl ?_); refine store_event (t := 72) (p := 91) (v := ?vo7) (w1 := w2.setCell ⟨gr, 4, none⟩ (.slice (some ⟨gt, 0, none⟩) tn tn)) ?hg ?ho ?hn ?hr ?_; (case ho => rfl); (case hg => rfl); (case hn => rfl); (case hr => first | (go_simp; done) | (go_simp; rfl)); intro w3 hw3; have HB3 := Aside0.mk (show Below w.heap.size w w3 from by rw [hw3]; exact below_set HB1.out HG.out); have HX3 := Aside0.mk (show w3.heap[gr]? = some (.cells (rC gt tn Mf) 76 (0, 0)) from by rw [hw3]; exact blk_put HX2.out _ _ (rG_tbl _ _ _ _)); have HT3 := Aside0.mk (show w3.heap[gt]? = some (.cells (List.replicate tn (Value.pointer none)).toArray 71 (0, 0)) from by rw [hw3]; exact blk_far' HT1.out (blk_ne HT1.out HX2.out (by decide)) _ _); clear hw3 h4 f4 HB1 HX2 HT1))
              have HP := Aside0.mk (HP0.out Mf EF.out)
              go_loopg [12] np (fun kq v12 w' => ∃ (i q : Nat) (tv : List Value), v12 = .int .i64 (i : Int) ∧ Aside0 (i = 2 * q) ∧ Aside0 (kq + q = np) ∧ Aside0 (tv.length = tn) ∧ Aside0 (Below w.heap.size w w') ∧ Aside0 (w'.heap[gr]? = some (.cells (rC gt tn Mf) 76 (0, 0))) ∧ Aside0 (w'.heap[gt]? = some (.cells tv.toArray 71 (0, 0))) ∧ Aside0 (TabP w' Mf ps L.length q tv))
              case atStart => exact ⟨0, 0, List.replicate tn (Value.pointer none), rfl, ⟨rfl⟩, ⟨by omega⟩, ⟨List.length_replicate⟩, HB3, HX3, HT3, ⟨fun m hm => .inl ⟨by rw [List.getElem?_replicate, if_pos (by rw [List.length_replicate] at hm; exact hm)], fun j p hj => absurd hj (by omega)⟩⟩⟩
              case round =>
                clear HB3 HX3 HT3
                obtain ⟨i, q, tv, rfl, HI, HQ, HL2, HB, HX, HT, HTP⟩ := hrel
                by_cases hq : q < np
                · have dj : decide ((i : Int) < (L.length : Int)) = true := decide_eq_true (by have := H2.out; have := HI.out; omega)
                  have dj2 : decide (i < L.length) = true := decide_eq_true (by have := H2.out; have := HI.out; omega)
                  have p5 : (0 ≤ (i : Int)) = True := eq_true (by omega)
                  have q5 : ((i : Int) < (L.length : Int)) = True := eq_true (by have := H2.out; have := HI.out; omega)
                  have p6 : (0 ≤ (i : Int) + 1) = True := eq_true (by omega)
                  have q6 : ((i : Int) + 1 < (L.length : Int)) = True := eq_true (by have := H2.out; have := HI.out; omega)
                  have e6 : ((i : Int) + 1).toNat = i + 1 := by omega
                  have hw1 : wrap64 ((i : Int) + 1) = (i : Int) + 1 := by have := H2.out; have := HI.out; have := HL.out; unfold wrap64; omega
                  have hv1 : IntKind.i64.wrap ((i : Int) + 1) = (i : Int) + 1 := by have := H2.out; have := HI.out; have := HL.out; rw [IntKind.wrap_i64]; omega
                  have hw2 : wrap64 ((i : Int) + 2) = ((i + 2 : Nat) : Int) := by have := H2.out; have := HI.out; have := HL.out; unfold wrap64; omega
                  have hw3 : wrap64 ((L.length : Int) - (i : Int)) = (L.length : Int) - (i : Int) := by have := H2.out; have := HI.out; have := HL.out; unfold wrap64; omega
                  have hv3 : IntKind.i64.wrap ((L.length : Int) - (i : Int)) = (L.length : Int) - (i : Int) := by have := H2.out; have := HI.out; have := HL.out; rw [IntKind.wrap_i64]; omega
                  obtain ⟨pr, hpr⟩ : ∃ pr, ps[q]? = some pr := ⟨_, List.getElem?_eq_getElem (by rw [HP.out.len]; exact hq)⟩
                  obtain ⟨ad, eA, hx⟩ := Kd.at_string (Kd.C_below HR.out HB.out) (i : Int) (by omega) (by have := H2.out; have := HI.out; omega)
                  obtain ⟨ad2, eA2, hy⟩ := Kd.at_string (Kd.C_below HR.out HB.out) ((i + 1 : Nat) : Int) (by omega) (by have := H2.out; have := HI.out; omega)
                  cases eA
                  cases eA2
                  rw [Int.toNat_natCast] at hx hy
                  have hy0 := hy
                  simp only [go_sem] at hy0
                  rw [show rdOf ByteArray.empty L (i : Int) = keyS pr.1 from by rw [HI.out]; exact HP.out.key q pr hpr] at hx
                  rw [show rdOf ByteArray.empty L ((i + 1 : Nat) : Int) = pr.2 from by rw [HI.out]; exact HP.out.val q pr hpr] at hy hy0
                  have QQ := Aside0.mk hq
                  obtain ⟨m, hml, hmm⟩ := HP.out.inn q pr hpr
                  have hnil : tv[m]? = some (.pointer none) := by
                    rcases HTP.out m (by rw [HL2.out]; exact hml) with ⟨h1, _⟩ | ⟨j, p', b, h1, h2, h3, h4, h5⟩
                    · exact h1
                    · exact absurd (HP.out.apart j q p' pr h2 hpr (h3.trans hmm.symm)) (by omega)
                  have HD := Aside0.mk (show ∀ (j : Nat) p', j < q → ps[j]? = some p' → Mf[lead p'.1]? ≠ some (m : Int) from fun j p' hj hp' e => absurd (HP.out.apart j q p' pr hp' hpr (e.trans hmm.symm)) (by omega))
                  obtain ⟨k, val⟩ := pr
                  have HPR := Aside0.mk hpr
                  have HMM := Aside0.mk hmm
                  have HML := Aside0.mk hml
                  have HN := Aside0.mk hnil
                  clear hq hpr hmm hml hnil
                  cases k with
                  | some c =>
                    replace hx : wr.cell? (ad.add i) = some (.string ⟨#[c]⟩) := hx
                    go_wp2_with (fail)
                    go_still_tail 17, (by kernel_rfl)
                    change wpList _ _ _ _ _ wr.drew
                    have HB2 := Aside0.mk (below_drew1 HB.out)
                    have HX2 := Aside0.mk (blk_drew HX.out)
                    have HT2 := Aside0.mk (blk_drew HT.out)
                    have HTP2 := Aside0.mk (show TabP wr.drew Mf ps L.length q tv from HTP.out)
                    clear HB HX HT HTP hx hy
                    generalize wr.drew = w2 at HB2 HX2 HT2 HTP2 ⊢
                    go_wp2_with (first
                      | (go_at_call 28; refine (add_root1 c val ((L.length : Int) - (i : Int)) gr gt tn m Mf tv _ HX2.out HT2.out HL2.out HMM.out HN.out).mono ?_; rintro e w3 ⟨rfl, b2, hb2, ht3, hn3, hc⟩))
                    have HNT := Aside0.mk (show ∀ g cs, w2.heap[g]? = some (.cells cs 74 (0, 0)) → ¬ g = gt from fun g cs h => blk_ne h HT2.out (by decide))
                    have HB3 := Aside0.mk (hc.base HB2.out HB2.out.size (fun k hk => by rw [hk]; exact GT.out))
                    have HX3 := Aside0.mk (hc.blk HX2.out (blk_ne HX2.out HT2.out (by decide)))
                    have HT3 := Aside0.mk ht3
                    have HTP3 := Aside0.mk (show TabP w3 Mf ps L.length (q + 1) (tv.set m (.pointer (some ⟨b2, 0, none⟩))) from (HTP2.out.chg hc HNT.out).put HPR.out HMM.out (by rw [HL2.out]; exact HML.out) (show NodeP w3 (some c) val ((L.length : Int) - (2 * q : Nat)) b2 from by rw [show ((2 * q : Nat) : Int) = (i : Int) by rw [HI.out]]; exact hn3) HD.out)
                    clear hb2 ht3 hc HNT HB2 HX2 HT2 HTP2 hn3
                    go_roundg (np - q - 1)
                    case measure => have := HQ.out; have := QQ.out; omega
                    case rel => exact ⟨i + 2, q + 1, _, by rw [hw2], ⟨by have := HI.out; omega⟩, ⟨by have := HQ.out; have := QQ.out; omega⟩, ⟨by rw [List.length_set]; exact HL2.out⟩, HB3, HX3, HT3, HTP3⟩
                  | none =>
                    replace hx : wr.cell? (ad.add i) = some (.string ⟨#[194, 160]⟩) := hx
                    go_wp2_with (fail)
                    go_still_tail 17, (by kernel_rfl)
                    change wpList _ _ _ _ _ wr.drew
                    have HB2 := Aside0.mk (below_drew1 HB.out)
                    have HX2 := Aside0.mk (blk_drew HX.out)
                    have HT2 := Aside0.mk (blk_drew HT.out)
                    have HTP2 := Aside0.mk (show TabP wr.drew Mf ps L.length q tv from HTP.out)
                    clear HB HX HT HTP hx hy
                    generalize wr.drew = w2 at HB2 HX2 HT2 HTP2 ⊢
                    go_wp2_with (first
                      | (go_at_call 28; refine (add_root2 val ((L.length : Int) - (i : Int)) gr gt tn m Mf tv _ HX2.out HT2.out HL2.out HMM.out HN.out).mono ?_; rintro e w3 ⟨rfl, b2, b3, hb2, hb3, ht3, hn3, hn4, hc⟩))
                    have HNT := Aside0.mk (show ∀ g cs, w2.heap[g]? = some (.cells cs 74 (0, 0)) → ¬ g = gt from fun g cs h => blk_ne h HT2.out (by decide))
                    have HB3 := Aside0.mk (hc.base HB2.out HB2.out.size (fun k hk => by rw [hk]; exact GT.out))
                    have HX3 := Aside0.mk (hc.blk HX2.out (blk_ne HX2.out HT2.out (by decide)))
                    have HT3 := Aside0.mk ht3
                    have HTP3 := Aside0.mk (show TabP w3 Mf ps L.length (q + 1) (tv.set m (.pointer (some ⟨b2, 0, none⟩))) from (HTP2.out.chg hc HNT.out).put HPR.out HMM.out (by rw [HL2.out]; exact HML.out) (show NodeP w3 none val ((L.length : Int) - (2 * q : Nat)) b2 from by rw [show ((2 * q : Nat) : Int) = (i : Int) by rw [HI.out]]; exact ⟨b3, hn3, hn4⟩) HD.out)
                    clear hb2 ht3 hc HNT HB2 HX2 HT2 HTP2 hn3 hn4 hb3
                    go_roundg (np - q - 1)
                    case measure => have := HQ.out; have := QQ.out; omega
                    case rel => exact ⟨i + 2, q + 1, _, by rw [hw2], ⟨by have := HI.out; omega⟩, ⟨by have := HQ.out; have := QQ.out; omega⟩, ⟨by rw [List.length_set]; exact HL2.out⟩, HB3, HX3, HT3, HTP3⟩
                · have dj : decide ((i : Int) < (L.length : Int)) = false := decide_eq_false (by have := H2.out; have := HI.out; omega)
                  have dj2 : decide (i < L.length) = false := decide_eq_false (by have := H2.out; have := HI.out; omega)
                  have eq_ : q = np := by have := HQ.out; omega
                  have HTP2 := Aside0.mk (show TabP wr Mf ps L.length np tv from by rw [← eq_]; exact HTP.out)
                  clear eq_ HTP hq HI HQ
                  go_wp2_with (fail)
                  go_ret
                  exact ⟨gr, gt, tv, Mf, rfl, HB.out, HG.out, GT.out, EF.out, HX.out, HT.out, HL2.out, HTP2.out⟩
end Go.Proofs.Ytkhgmjmfgbpenaa.Trie
