/- (*strings.genericReplacer).WriteString's loop and Replace, walked. -/
import Derived.Test.YtkhgmjmfgbpenaaVriteW
namespace Go.Proofs.Ytkhgmjmfgbpenaa.Trie
open Go Go.RowKit Go.Proofs.YtkhgmjmfgbpenaaV.PrintWords Go.Proofs.YtkhgmjmfgbpenaaV.PrintLast Go.Proofs.YtkhgmjmfgbpenaaV.PrintMore Go.Proofs.Ytkhgmjmfgbpenaa.Once
set_option linter.unusedVariables false
set_option linter.unusedSimpArgs false

abbrev Ps := List (Option UInt8 × ByteArray)
/-- A text with its keys replaced. -/
def esc (ps : Ps) : Nat → List UInt8 → List UInt8
  | 0, _ => []
  | k + 1, l => match look ps l with
    | some (v, n) => v.data.toList ++ esc ps k (l.drop n)
    | none => match l with
      | [] => []
      | c :: r => c :: esc ps k r
theorem look_len {ps : Ps} {l : List UInt8} {v : ByteArray} {n : Nat} (h : look ps l = some (v, n)) : 1 ≤ n ∧ n ≤ l.length := by
  cases l with
  | nil => cases h
  | cons c r =>
    simp only [look] at h
    split at h
    · cases h
    · cases h
      exact ⟨Nat.le_refl _, by simp⟩
    · split at h
      · cases h
      · split at h
        · cases h
          exact ⟨by omega, by simp⟩
        · cases h
theorem esc_more (ps : Ps) : ∀ (k k' : Nat) (l : List UInt8), l.length < k → l.length < k' → esc ps k l = esc ps k' l
  | 0, _, _, h, _ => by omega
  | _, 0, _, _, h => by omega
  | k + 1, k' + 1, l, h, h' => by
    unfold esc
    cases hl : look ps l with
    | some p =>
      obtain ⟨v, n⟩ := p
      have := look_len hl
      show v.data.toList ++ _ = v.data.toList ++ _
      rw [esc_more ps k k' (l.drop n) (by rw [List.length_drop]; omega) (by rw [List.length_drop]; omega)]
    | none =>
      cases l with
      | nil => rfl
      | cons c r =>
        show c :: _ = c :: _
        rw [esc_more ps k k' r (by simp at h; omega) (by simp at h'; omega)]
theorem esc_none {ps : Ps} {c : UInt8} {r : List UInt8} (k : Nat) (h : look ps (c :: r) = none) : esc ps (k + 1) (c :: r) = c :: esc ps k r := by
  show (match look ps (c :: r) with | some (v, n) => v.data.toList ++ esc ps k ((c :: r).drop n) | none => c :: esc ps k r) = _
  rw [h]
theorem esc_some {ps : Ps} {l : List UInt8} {v : ByteArray} {n : Nat} (k : Nat) (h : look ps l = some (v, n)) : esc ps (k + 1) l = v.data.toList ++ esc ps k (l.drop n) := by
  rw [esc.eq_def]
  simp only [h]
def B (l : List UInt8) : List Int := l.map fun b => (b.toNat : Int)
theorem bytesOf_lst (l : List UInt8) : bytesOf (lst l) = B l := rfl
theorem B_length (l : List UInt8) : (B l).length = l.length := List.length_map _
theorem B_app (a b : List UInt8) : B (a ++ b) = B a ++ B b := List.map_append
theorem step_skip {ps : Ps} {xs T : List Int} {l : List UInt8} {i la k : Nat} {c : UInt8} (h : xs ++ B ((l.take i).drop la) ++ B (esc ps (k + 1) (l.drop i)) = T) (e : l.drop i = c :: l.drop (i + 1)) (hn : look ps (c :: l.drop (i + 1)) = none) (hla : la ≤ i) (hi : i < l.length) :
    xs ++ B ((l.take (i + 1)).drop la) ++ B (esc ps k (l.drop (i + 1))) = T := by
  rw [e, esc_none k hn] at h
  have hc : l[i]? = some c := by
    have := congrArg (fun q => q[0]?) e
    simpa [List.getElem?_drop] using this
  have h1 : l.take (i + 1) = l.take i ++ [c] := by
    rw [List.take_add_one, hc]
    rfl
  rw [h1, List.drop_append_of_le_length (by rw [List.length_take]; omega), B_app, ← h]
  simp [B]
theorem step_key {ps : Ps} {xs T : List Int} {l : List UInt8} {i la k n : Nat} {v : ByteArray} (h : xs ++ B ((l.take i).drop la) ++ B (esc ps (k + 1) (l.drop i)) = T) (hn : look ps (l.drop i) = some (v, n)) (hk : l.length - i ≤ k) (k' : Nat) (hk' : l.length - (i + n) < k') :
    (xs ++ B ((l.take i).drop la) ++ bytesOf v) ++ B ((l.take (i + n)).drop (i + n)) ++ B (esc ps k' (l.drop (i + n))) = T := by
  have hl := look_len hn
  simp only [List.length_drop] at hl
  rw [esc_some k hn, List.drop_drop, esc_more ps k k' _ (by simp only [List.length_drop]; omega) (by simp only [List.length_drop]; omega), B_app] at h
  have h0 : (l.take (i + n)).drop (i + n) = [] := List.drop_eq_nil_of_le (by rw [List.length_take]; omega)
  rw [h0, ← h]
  show (xs ++ B ((l.take i).drop la) ++ bytesOf v) ++ [] ++ _ = _
  rw [List.append_nil, List.append_assoc, List.append_assoc, List.append_assoc]
  rfl
theorem look_val {ps : Ps} {l : List UInt8} {v : ByteArray} {n : Nat} (h : look ps l = some (v, n)) : ∃ p, p ∈ ps ∧ p.2 = v := by
  cases l with
  | nil => cases h
  | cons c r =>
    simp only [look] at h
    split at h
    · cases h
    · rename_i hf
      cases h
      exact ⟨_, List.mem_of_find?_eq_some hf, rfl⟩
    · rename_i hf
      split at h
      · cases h
      · split at h
        · cases h
          exact ⟨_, List.mem_of_find?_eq_some hf, rfl⟩
        · cases h
theorem meth_row : (Try.prog.info? 124).map (fun i => (i.methods.find? (·.name == "WriteString")).map (fun m => (m.path.toList, m.func))) = some (some ([], some (95, true))) := by kernel_rfl
theorem nil_ahead (w : World) (a : Addr) : (nilAhead 240 124 (.pointer (some a)) "WriteString").run Try.prog w = .ok (some false) w := by
  have hm := meth_row
  cases hq : Try.prog.info? 124 with
  | none => simp [hq] at hm
  | some i =>
    simp only [hq, Option.map_some, Option.some.injEq] at hm
    obtain ⟨m, h1, h2⟩ := Option.map_eq_some_iff.1 hm
    simp only [Prod.mk.injEq] at h2
    unfold nilAhead
    simp [Sem.run_bind, typeInfo, hq, h1, h2.1, h2.2, followBlind, Result.andThen]
/-- A call that is entered, whatever the callee's kind. -/
theorem goesR_ {P : Program} {ops : Array Oper} {Q : Exit → Act → World → Prop} {rest : List Oper} {oi : Oper} {a : Act} {w : World} (N : Option Tmp) (hd : oi.dst = N) (hg : oi.guard = none) (f : FuncId) (args : Array Value) (hrun : (execOp a.eval oi).run P w = .ok (.enter f args) w)
    (h : Calls P f args w fun e w' => ∃ v, e = .returned v ∧ wpList P ops Q rest (a.put N v) w') : wpList P ops Q (oi :: rest) a w := by
  refine wpList_plain hg fun K hK => ?_
  unfold Oper.wp
  rw [hrun, Oper.upon_enter]
  refine h.mono fun e w'' hh => ?_
  obtain ⟨v, rfl, hk⟩ := hh
  subst hd
  exact hK _ _ hk
set_option maxRecDepth 100000 in
set_option maxHeartbeats 16000000 in
theorem writeString_calls (w0 w : World) (base gr gt tn gw : Nat) (M : List Int) (tv : List Value) (L np : Nat) (ps : Ps) (Ls : List ByteArray) (l : List UInt8) (v0 : Value)
    (hr : w.heap[gr]? = some (.cells (rC gt tn M) 76 (0, 0))) (ht : w.heap[gt]? = some (.cells tv.toArray 71 (0, 0))) (hl : tv.length = tn) (htp : TabP w M ps L np tv) (PA : Pairs Ls M tn np ps) (P : Places M tn) (htl : tn ≤ 256) (hpos : 2 * np ≤ L)
    (hb : Buf w base gw v0 []) (hB : Below base w0 w) (hbs : base ≤ w.heap.size) (hs : l.length ≤ 1048576) (hv : ∀ p, p ∈ ps → p.2.size ≤ 1000) :
    Calls Try.prog 73 #[.pointer (some ⟨gr, 0, none⟩), .iface 124 (.pointer (some ⟨gw, 0, none⟩)), .string (lst l)] w fun e w' => (∃ n, e = .returned (.tuple #[.int .i64 n, .nilIface])) ∧ ∃ v', Buf w' base gw v' (B (esc ps (l.length + 1) l)) ∧ Below base w0 w' ∧ Safe w w' := by
  have HR := Aside0.mk hr
  have HT := Aside0.mk ht
  have HL := Aside0.mk hl
  have HTP := Aside0.mk htp
  have HPA := Aside0.mk PA
  have PP := Aside0.mk P
  have HTL := Aside0.mk htl
  have HPOS := Aside0.mk hpos
  have HBU := Aside0.mk hb
  have HB := Aside0.mk hB
  have HBS := Aside0.mk hbs
  have HS := Aside0.mk hs
  have HV := Aside0.mk hv
  clear hr ht hl htp PA P htl hpos hb hB hbs hs hv
  have hna := nil_ahead
  go_enter Try.func73, Try.ntmps73
  go_wp2_with (first
    | (go_at_call 74; refine (getW w gw).mono ?_; rintro e w' ⟨rfl, hw⟩; replace hw := hw.symm; subst hw))
  go_loopg [6, 7, 9, 11, 12] (l.length + 1) (fun kq v6 v7 v9 v11 v12 w' => ∃ (i la : Nat) (x : Int) (v : Value) (xs : List Int), v6 = .int .i64 x ∧ v7 = .nilIface ∧ v9 = .int .i64 (la : Int) ∧ v11 = .bool false ∧ v12 = .int .i64 (i : Int) ∧ Aside0 (kq + i = l.length + 1 ∧ la ≤ i ∧ la ≤ l.length) ∧
    Aside0 (xs ++ B ((l.take i).drop la) ++ B (esc ps kq (l.drop i)) = B (esc ps (l.length + 1) l)) ∧ Aside0 (xs.length ≤ 1000 * la) ∧ Aside0 (Buf w' base gw v xs) ∧ Aside0 (Below base w0 w') ∧ Aside0 (base ≤ w'.heap.size) ∧ Aside0 (Safe w w'))
  case atStart => exact ⟨0, 0, 0, v0, [], rfl, rfl, rfl, rfl, rfl, ⟨by omega, by omega, by omega⟩, ⟨by simp [B]⟩, ⟨by simp⟩, HBU, HB, HBS, ⟨Safe.refl w⟩⟩
  case round =>
    clear HBU HB HBS
    obtain ⟨i, la, x, v, xs, rfl, rfl, rfl, rfl, rfl, HI, HE, HX, HBU, HB, HBS, HSF⟩ := hrel
    have hlen : (lst l).size = l.length := rfl
    have HR1 := Aside0.mk (HSF.out _ _ _ (.inl rfl) HR.out)
    have HT1 := Aside0.mk (HSF.out _ _ _ (.inr (.inl rfl)) HT.out)
    have HTP1 := Aside0.mk (HTP.out.safe HSF.out)
    have h1' : wr.cell? ⟨gr, 1, none⟩ = some (.int .i64 0) := (blk_cell HR1.out 1).trans rfl
    have h4' : wr.cell? ⟨gr, 4, none⟩ = some (.slice (some ⟨gt, 0, none⟩) tn tn) := (blk_cell HR1.out 4).trans rfl
    have h5' : wr.cell? ⟨gr, 5, none⟩ = some (.int .i64 tn) := (blk_cell HR1.out 5).trans rfl
    have hwi : wrap64 ((i : Int) + 1) = ((i + 1 : Nat) : Int) := by have := HS.out; have := HI.out; unfold wrap64; omega
    by_cases hi : i < l.length
    · have d1 : decide ((i : Int) ≤ (l.length : Int)) = true := decide_eq_true (by omega)
      have d1' : decide (i ≤ l.length) = true := decide_eq_true (by omega)
      have d2 : ((i : Int) != (l.length : Int)) = true := bne_iff_ne.mpr (by omega)
      have p5 : (0 ≤ (i : Int)) = True := eq_true (by omega)
      have q5 : ((i : Int) < (l.length : Int)) = True := eq_true (by omega)
      have q6 : ((i : Int) ≤ (l.length : Int)) = True := eq_true (by omega)
      obtain ⟨c, ecl⟩ : ∃ c : UInt8, c = l[i] := ⟨_, rfl⟩
      have ED := Aside0.mk (show l.drop i = c :: l.drop (i + 1) from by rw [ecl]; exact List.drop_eq_getElem_cons hi)
      have ec : ∀ h, ((lst l)[(i : Int).toNat]'h) = c := fun _ => ecl.symm
      have ec2 : ∀ h, ((lst l)[i]'h) = c := fun _ => ecl.symm
      have hcl := c.toNat_lt
      have c1 : ((c.toNat : Int) < 256) = True := eq_true (by omega)
      have c2 : (c.toNat < 256) = True := eq_true (by omega)
      obtain ⟨m, hm1, hm2⟩ := PP.out.rng c.toNat (by omega)
      have htl := HTL.out
      have hM : wr.cell? ⟨gr, 6 + c.toNat, none⟩ = some (.int .u8 m) := (blk_cell HR1.out _).trans (rC_map hm2)
      have HM2 := Aside0.mk hm2
      have II := Aside0.mk hi
      clear hm2 ecl hi
      go_wp2_with (fail)
      go_still_tail 9, (by kernel_rfl)
      change wpList _ _ _ _ _ wr.drew
      have HR2 := Aside0.mk (blk_drew HR1.out)
      have HT2 := Aside0.mk (blk_drew HT1.out)
      have HTP2 := Aside0.mk (show TabP wr.drew M ps L np tv from HTP1.out)
      have HBU2 := Aside0.mk (show Buf wr.drew base gw v xs from HBU.out)
      have HB2 := Aside0.mk (HB.out.drew)
      have HBS2 := Aside0.mk (show base ≤ wr.drew.heap.size from HBS.out)
      have HSF2 := Aside0.mk (show Safe w wr.drew from HSF.out)
      replace h4' : wr.drew.cell? ⟨gr, 4, none⟩ = some (.slice (some ⟨gt, 0, none⟩) tn tn) := h4'
      replace h5' : wr.drew.cell? ⟨gr, 5, none⟩ = some (.int .i64 tn) := h5'
      clear HR1 HT1 HTP1 h1' hM HBU HB HBS HSF
      generalize wr.drew = w2 at HR2 HT2 HTP2 HBU2 HB2 HBS2 HSF2 h4' h5' ⊢
      obtain ⟨k, hk⟩ : ∃ k, gk = k + 1 := ⟨gk - 1, by have := HI.out; have := II.out; omega⟩
      have HK := Aside0.mk hk
      clear hk
      by_cases hmt : m = tn
      · have hln := lookNone HPA.out HM2.out (.inl hmt)
        have HLN := Aside0.mk (look_none (l.drop (i + 1)) hln)
        subst hmt
        clear hln
        go_wp2_with (fail)
        go_roundg k
        case measure => have := HK.out; omega
        case rel => exact ⟨i + 1, la, x, v, xs, rfl, rfl, rfl, rfl, by rw [hwi], ⟨by have := HI.out; have := HK.out; omega, by have := HI.out; omega, HI.out.2.2⟩, ⟨step_skip (by have := HE.out; rw [HK.out] at this; exact this) ED.out HLN.out HI.out.2.1 II.out⟩, HX, HBU2, HB2, HBS2, HSF2⟩
      · have e1 : ((m : Int) == (tn : Int)) = false := beq_eq_false_iff_ne.mpr (by omega)
        have e2 : (m == tn) = false := beq_eq_false_iff_ne.mpr hmt
        have q1 : ((m : Int) < (tn : Int)) = True := eq_true (by omega)
        obtain ⟨x1, hx1, hx2⟩ := lookTab HTP2.out HPA.out PP.out HL.out HM2.out HPOS.out (by omega)
        have hcell : w2.cell? ⟨gt, m, none⟩ = some (.pointer x1) := (blk_cell HT2.out _).trans (by rw [List.getElem?_toArray]; exact hx1)
        clear hx1
        rcases hx2 with ⟨rfl, hfn⟩ | ⟨b, k0, val, p, rfl, -, -, hfs⟩
        · have HLN := Aside0.mk (look_none (l.drop (i + 1)) hfn)
          clear hfn
          go_wp2_with (fail)
          go_roundg k
          case measure => have := HK.out; omega
          case rel => exact ⟨i + 1, la, x, v, xs, rfl, rfl, rfl, rfl, by rw [hwi], ⟨by have := HI.out; have := HK.out; omega, by have := HI.out; omega, HI.out.2.2⟩, ⟨step_skip (by have := HE.out; rw [HK.out] at this; exact this) ED.out HLN.out HI.out.2.1 II.out⟩, HX, HBU2, HB2, HBS2, HSF2⟩
        · clear hfs
          have hei : (lst l).extract i l.length = lst (l.drop i) := by rw [ext_lst, List.take_of_length_le (Nat.le_refl _)]
          cases hlk : look ps (l.drop i) with
          | none =>
            have HLK := Aside0.mk hlk
            have HLN := Aside0.mk (show look ps (c :: l.drop (i + 1)) = none from by rw [← ED.out]; exact hlk)
            clear hlk
            go_wp2_with (first
              | (go_at_call 75; refine (lookup_calls w2 gr gt tn M tv L np ps _ HR2.out HT2.out HL.out HTP2.out Ls HPA.out PP.out HTL.out HPOS.out).mono ?_; rintro e w3 ⟨he, n1, hw3⟩; obtain rfl : e = .returned (.tuple #[.string eS, .int .i64 0, .bool false]) := (by rw [he]; show Ending.returned (lookV (look ps (l.drop i))) = _; rw [HLK.out]; rfl); clear he; have HR3 := Aside0.mk (show w3.heap[gr]? = some (.cells (rC gt tn M) 76 (0, 0)) from by rw [hw3]; exact HR2.out); have HBU3 := Aside0.mk (show Buf w3 base gw v xs from by rw [hw3]; exact HBU2.out); have HB3 := Aside0.mk (show Below base w0 w3 from by rw [hw3]; exact pw_below_drewN HB2.out n1); have HBS3 := Aside0.mk (show base ≤ w3.heap.size from by rw [hw3]; exact HBS2.out); have HSF3 := Aside0.mk (show Safe w w3 from by rw [hw3]; exact HSF2.out); clear hw3 HBU2 HB2 HBS2 HSF2 HT2 HTP2 HR2 h4' h5' hcell))
            go_roundg k
            case measure => have := HK.out; omega
            case rel => exact ⟨i + 1, la, x, v, xs, rfl, rfl, rfl, rfl, by rw [hwi], ⟨by have := HI.out; have := HK.out; omega, by have := HI.out; omega, HI.out.2.2⟩, ⟨step_skip (by have := HE.out; rw [HK.out] at this; exact this) ED.out HLN.out HI.out.2.1 II.out⟩, HX, HBU3, HB3, HBS3, HSF3⟩
          | some pr =>
            obtain ⟨val', n⟩ := pr
            have HLK := Aside0.mk hlk
            have hnl := look_len hlk
            simp only [List.length_drop] at hnl
            have n0 : ((n : Int) == 0) = false := beq_eq_false_iff_ne.mpr (by omega)
            have n0' : (n == 0) = false := beq_eq_false_iff_ne.mpr (by omega)
            have NL := Aside0.mk hnl
            have hla : la ≤ i := HI.out.2.1
            have hex : (lst l).extract la i = lst ((l.take i).drop la) := ext_lst l la i
            have p7 : (0 ≤ (la : Int)) = True := eq_true (by omega)
            have p8 : ((la : Int) ≤ (i : Int)) = True := eq_true (by omega)
            clear hlk hnl
            go_wp2_with (first
              | (go_at_call 75; refine (lookup_calls w2 gr gt tn M tv L np ps _ HR2.out HT2.out HL.out HTP2.out Ls HPA.out PP.out HTL.out HPOS.out).mono ?_; rintro e w3 ⟨he, n1, hw3⟩; obtain rfl : e = .returned (.tuple #[.string val', .int .i64 (n : Int), .bool true]) := (by rw [he]; show Ending.returned (lookV (look ps (l.drop i))) = _; rw [HLK.out]; rfl); clear he; have HR3 := Aside0.mk (show w3.heap[gr]? = some (.cells (rC gt tn M) 76 (0, 0)) from by rw [hw3]; exact HR2.out); have HBU3 := Aside0.mk (show Buf w3 base gw v xs from by rw [hw3]; exact HBU2.out); have HB3 := Aside0.mk (show Below base w0 w3 from by rw [hw3]; exact pw_below_drewN HB2.out n1); have HBS3 := Aside0.mk (show base ≤ w3.heap.size from by rw [hw3]; exact HBS2.out); have HSF3 := Aside0.mk (show Safe w w3 from by rw [hw3]; exact HSF2.out); clear hw3 HBU2 HB2 HBS2 HSF2 HT2 HTP2 HR2 h4' h5' hcell))
-- REG13
            refine start_ (n := 14) (S := fun _ => True) (ds := []) #[false, false, false, false, false, false, false, false, false, false, false, false, false, false] (by kernel_rfl) rfl rfl trivial (fun hHeld => ?_)
            have HBU4 := Aside0.mk (show Buf w3.drew base gw v xs from HBU3.out)
            have HB4 := Aside0.mk (HB3.out.drew)
            have HBS4 := Aside0.mk (show base ≤ w3.drew.heap.size from HBS3.out)
            have HSF4 := Aside0.mk (show Safe w w3.drew from HSF3.out)
            clear HBU3 HB3 HBS3 HSF3
            generalize w3.drew = w4 at HBU4 HB4 HBS4 HSF4 ⊢
            refine pure_ (i := 0) (N := (some 80)) (v := ?_) (a' := ?_) #[true, false, false, false, false, false, false, false, false, false, false, false, false, false] rfl rfl (by kernel_rfl) (fun _ _ _ h => h) (Or.inl ⟨by rfl, ?_⟩) ?_ ?_
            rotate_left
            · intro w'
              go_simp
              with_reducible rfl
            rotate_left
            · simp only [Act.put, List.setIfInBounds_toArray, List.set_cons_zero, List.set_cons_succ, i64_w, i32_w]
              rfl
            refine pure_ (i := 1) (N := (some 81)) (v := ?_) (a' := ?_) #[true, true, false, false, false, false, false, false, false, false, false, false, false, false] rfl rfl (by kernel_rfl) (fun _ _ _ h => h) (Or.inl ⟨by rfl, ?_⟩) ?_ ?_
            rotate_left
            · intro w'
              go_simp
              with_reducible rfl
            rotate_left
            · simp only [Act.put, List.setIfInBounds_toArray, List.set_cons_zero, List.set_cons_succ, i64_w, i32_w]
              rfl
            refine pure_ (i := 2) (N := (some 82)) (v := ?_) (a' := ?_) #[true, true, true, false, false, false, false, false, false, false, false, false, false, false] rfl rfl (by kernel_rfl) (fun _ _ _ h => h) (Or.inl ⟨by rfl, ?_⟩) ?_ ?_
            rotate_left
            · intro w'
              go_simp
              with_reducible rfl
            rotate_left
            · simp only [Act.put, List.setIfInBounds_toArray, List.set_cons_zero, List.set_cons_succ, i64_w, i32_w]
              rfl
            refine pure_ (i := 3) (N := (some 83)) (v := ?_) (a' := ?_) #[true, true, true, true, false, false, false, false, false, false, false, false, false, false] rfl rfl (by kernel_rfl) (fun _ _ _ h => h) (Or.inl ⟨by rfl, ?_⟩) ?_ ?_
            rotate_left
            · intro w'
              go_simp
              with_reducible rfl
            rotate_left
            · simp only [Act.put, List.setIfInBounds_toArray, List.set_cons_zero, List.set_cons_succ, i64_w, i32_w]
              rfl
            refine pure_ (i := 4) (N := (some 84)) (v := ?_) (a' := ?_) #[true, true, true, true, true, false, false, false, false, false, false, false, false, false] rfl rfl (by kernel_rfl) (fun _ _ _ h => h) (Or.inl ⟨by rfl, ?_⟩) ?_ ?_
            rotate_left
            · intro w'
              go_simp
              with_reducible rfl
            rotate_left
            · simp only [Act.put, List.setIfInBounds_toArray, List.set_cons_zero, List.set_cons_succ, i64_w, i32_w]
              rfl
            refine pure_ (i := 5) (N := (some 85)) (v := ?_) (a' := ?_) #[true, true, true, true, true, true, false, false, false, false, false, false, false, false] rfl rfl (by kernel_rfl) (fun _ _ _ h => h) (Or.inl ⟨by rfl, ?_⟩) ?_ ?_
            rotate_left
            · intro w'
              go_simp
              with_reducible rfl
            rotate_left
            · simp only [Act.put, List.setIfInBounds_toArray, List.set_cons_zero, List.set_cons_succ, i64_w, i32_w]
              rfl
            refine pure_ (i := 6) (N := (some 86)) (v := ?_) (a' := ?_) #[true, true, true, true, true, true, true, false, false, false, false, false, false, false] rfl rfl (by kernel_rfl) (fun _ _ _ h => h) (Or.inl ⟨by rfl, ?_⟩) ?_ ?_
            rotate_left
            · intro w'
              go_simp
              with_reducible rfl
            rotate_left
            · simp only [Act.put, List.setIfInBounds_toArray, List.set_cons_zero, List.set_cons_succ, i64_w, i32_w]
              rfl
            refine pure_ (i := 7) (N := (some 87)) (v := ?_) (a' := ?_) #[true, true, true, true, true, true, true, true, false, false, false, false, false, false] rfl rfl (by kernel_rfl) (fun _ _ _ h => h) (Or.inl ⟨by rfl, ?_⟩) ?_ ?_
            rotate_left
            · intro w'
              go_simp
              with_reducible rfl
            rotate_left
            · simp only [Act.put, List.setIfInBounds_toArray, List.set_cons_zero, List.set_cons_succ, i64_w, i32_w]
              rfl
            refine one_ (i := 8) (N := (some 88)) #[true, true, true, true, true, true, true, true, true, false, false, false, false, false] rfl rfl (by kernel_rfl) (by decide) (fun K hK => ?_)
            refine call_ (95) #[.pointer (some ⟨gw, 0, none⟩), .string (lst ((l.take i).drop la))] (by rfl) rfl (by first | (go_simp; done) | (go_simp; rfl)) ?_
            refine (write_calls w0 w4 base gw v xs (lst ((l.take i).drop la)) HBU4.out HB4.out HBS4.out (by have := HX.out; have := HS.out; have := HI.out; show xs.length + ((l.take i).drop la).length ≤ _; simp only [List.length_drop, List.length_take]; omega)).mono ?_
            rintro e w5 ⟨rfl, v5, hbu, hb, hsz, hsf⟩
            refine ⟨_, rfl, ?_⟩
            have HBU5 := Aside0.mk hbu
            have HB5 := Aside0.mk hb
            have HBS5 := Aside0.mk (Nat.le_trans HBS4.out hsz)
            have HSF5 := Aside0.mk (HSF4.out.then_ hsf)
            clear hbu hb hsz hsf
            refine hK.out _ _ trivial (fun hHeld => ?_)
            clear hK K
            refine norm_ (a' := ?_) ?_ ?_
            rotate_left
            · show Act.put _ (some 88) _ = _
              simp only [Act.put, List.setIfInBounds_toArray, List.set_cons_zero, List.set_cons_succ, i64_w, i32_w]
              rfl
            refine pure_ (i := 9) (N := (some 79)) (v := ?_) (a' := ?_) #[true, true, true, true, true, true, true, true, true, true, false, false, false, false] rfl rfl (by kernel_rfl) (fun _ _ _ h => h) (Or.inl ⟨by rfl, ?_⟩) ?_ ?_
            rotate_left
            · intro w'
              go_simp
              with_reducible rfl
            rotate_left
            · simp only [Act.put, List.setIfInBounds_toArray, List.set_cons_zero, List.set_cons_succ, i64_w, i32_w]
              rfl
            refine pure_ (i := 10) (N := (some 89)) (v := ?_) (a' := ?_) #[true, true, true, true, true, true, true, true, true, true, true, false, false, false] rfl rfl (by kernel_rfl) (fun _ _ _ h => h) (Or.inl ⟨by rfl, ?_⟩) ?_ ?_
            rotate_left
            · intro w'
              go_simp
              with_reducible rfl
            rotate_left
            · simp only [Act.put, List.setIfInBounds_toArray, List.set_cons_zero, List.set_cons_succ, i64_w, i32_w]
              rfl
            refine pure_ (i := 11) (N := (some 90)) (v := ?_) (a' := ?_) #[true, true, true, true, true, true, true, true, true, true, true, true, false, false] rfl rfl (by kernel_rfl) (fun _ _ _ h => h) (Or.inl ⟨by rfl, ?_⟩) ?_ ?_
            rotate_left
            · intro w'
              go_simp
              with_reducible rfl
            rotate_left
            · simp only [Act.put, List.setIfInBounds_toArray, List.set_cons_zero, List.set_cons_succ, i64_w, i32_w]
              rfl
            refine pure_ (i := 12) (N := (some 10)) (v := ?_) (a' := ?_) #[true, true, true, true, true, true, true, true, true, true, true, true, true, false] rfl rfl (by kernel_rfl) (fun _ _ _ h => h) (Or.inl ⟨by rfl, ?_⟩) ?_ ?_
            rotate_left
            · intro w'
              go_simp
              with_reducible rfl
            rotate_left
            · simp only [Act.put, List.setIfInBounds_toArray, List.set_cons_zero, List.set_cons_succ, i64_w, i32_w]
              rfl
            refine pure_ (i := 13) (N := (some 7)) (v := ?_) (a' := ?_) #[true, true, true, true, true, true, true, true, true, true, true, true, true, true] rfl rfl (by kernel_rfl) (fun _ _ _ h => h) (Or.inl ⟨by rfl, ?_⟩) ?_ ?_
            rotate_left
            · intro w'
              go_simp
              with_reducible rfl
            rotate_left
            · simp only [Act.put, List.setIfInBounds_toArray, List.set_cons_zero, List.set_cons_succ, i64_w, i32_w]
              rfl
            refine done_ (by kernel_rfl) ?_
-- END13
            have HVS := Aside0.mk (show val'.size ≤ 1000 from by obtain ⟨p, h1, h2⟩ := look_val HLK.out; rw [← h2]; exact HV.out p h1)
            have hwn : wrap64 ((i : Int) + (n : Int)) = ((i + n : Nat) : Int) := by have := HS.out; have := NL.out; unfold wrap64; omega
            go_wp2_with (first
              | ((with_reducible refine gate_dst (N := 99) rfl ?_); refine goesR_ (some 99) rfl rfl 95 #[.pointer (some ⟨gw, 0, none⟩), .string val'] ?hrun ?_; (case hrun => first | (go_simp; done) | (go_simp; rfl)); refine (write_calls w0 w5 base gw v5 _ val' HBU5.out HB5.out HBS5.out (by have := HX.out; have := HS.out; have := HI.out; have := HVS.out; simp only [List.length_append, bytesOf_lst, bytesOf_length, B_length, List.length_drop, List.length_take]; omega)).mono ?_; rintro e w6 ⟨rfl, v6, hbu, hb, hsz, hsf⟩; refine ⟨_, rfl, ?_⟩; have HBU6 := Aside0.mk hbu; have HB6 := Aside0.mk hb; have HBS6 := Aside0.mk (Nat.le_trans HBS5.out hsz); have HSF6 := Aside0.mk (HSF5.out.then_ hsf); clear hbu hb hsz hsf HBU5 HB5 HBS5 HSF5))
            go_roundg (l.length + 1 - (i + n))
            case measure => have := HK.out; have := NL.out; have := HI.out; omega
            case rel => exact ⟨i + n, i + n, _, v6, _, rfl, rfl, by rw [hwn], rfl, by rw [hwn], ⟨by have := NL.out; omega, Nat.le_refl _, by have := NL.out; have := II.out; omega⟩, ⟨step_key (by have := HE.out; rw [HK.out] at this; exact this) HLK.out (by have := HI.out; have := HK.out; omega) _ (by have := NL.out; have := II.out; omega)⟩, ⟨by have := HX.out; have := HI.out; have := HVS.out; have := NL.out; simp only [List.length_append, bytesOf_lst, bytesOf_length, B_length, List.length_drop, List.length_take]; omega⟩, HBU6, HB6, HBS6, HSF6⟩
    · by_cases hi2 : i = l.length
      · subst hi2
        have d1 : decide ((l.length : Int) ≤ (l.length : Int)) = true := decide_eq_true (Int.le_refl _)
        have d1' : decide (l.length ≤ l.length) = true := decide_eq_true (Nat.le_refl _)
        have d2 : ((l.length : Int) != (l.length : Int)) = false := by simp
        have d3 : (l.length != l.length) = false := by simp
        have q6 : ((l.length : Int) ≤ (l.length : Int)) = True := eq_true (Int.le_refl _)
        have p5 : (0 ≤ (l.length : Int)) = True := eq_true (by omega)
        have hei : (lst l).extract l.length l.length = lst [] := by rw [ext_lst]; simp
        have HLK := Aside0.mk (show look ps [] = none from rfl)
        go_wp2_with (first
          | (go_at_call 75; refine (lookup_calls wr gr gt tn M tv L np ps _ HR1.out HT1.out HL.out HTP1.out Ls HPA.out PP.out HTL.out HPOS.out).mono ?_; rintro e w3 ⟨he, n1, hw3⟩; obtain rfl : e = .returned (.tuple #[.string eS, .int .i64 0, .bool false]) := (by rw [he]; first | rfl | (rw [hei]; rfl)); clear he; have HBU3 := Aside0.mk (show Buf w3 base gw v xs from by rw [hw3]; exact HBU.out); have HB3 := Aside0.mk (show Below base w0 w3 from by rw [hw3]; exact pw_below_drewN HB.out n1); have HBS3 := Aside0.mk (show base ≤ w3.heap.size from by rw [hw3]; exact HBS.out); have HSF3 := Aside0.mk (show Safe w w3 from by rw [hw3]; exact HSF.out); clear hw3 HBU HB HBS HSF HT1 HTP1 HR1 h1' h4' h5'))
        have EK := Aside0.mk (show gk = 1 from by have := HI.out; omega)
        go_roundg 0
        case measure => have := EK.out; omega
        case rel => exact ⟨l.length + 1, la, x, v, xs, rfl, rfl, rfl, rfl, by rw [hwi], ⟨by omega, by have := HI.out; omega, HI.out.2.2⟩, ⟨by have := HE.out; rw [EK.out, show l.drop l.length = [] from List.drop_length, show esc ps 1 [] = [] from rfl, List.take_of_length_le (Nat.le_refl _)] at this; rw [List.take_of_length_le (by omega)]; exact this⟩, HX, HBU3, HB3, HBS3, HSF3⟩
      · have d1 : decide ((i : Int) ≤ (l.length : Int)) = false := decide_eq_false (by omega)
        have d1' : decide (i ≤ l.length) = false := decide_eq_false (by omega)
        have EK := Aside0.mk (show gk = 0 from by have := HI.out; omega)
        have HF := Aside0.mk (show xs ++ B (l.drop la) = B (esc ps (l.length + 1) l) from by
          have := HE.out
          rw [EK.out, List.take_of_length_le (by omega), show esc ps 0 (l.drop i) = [] from rfl] at this
          rw [← this]
          show _ = _ ++ []
          rw [List.append_nil])
        by_cases hla : la = l.length
        · have d2 : ((la : Int) != (l.length : Int)) = false := by rw [hla]; simp
          have d3 : (la != l.length) = false := by rw [hla]; simp
          have HLA := Aside0.mk hla
          clear hla
          go_wp2_with (fail)
          go_ret2
          exact ⟨⟨_, rfl⟩, v, by have := HF.out; rw [HLA.out, List.drop_length, show B [] = [] from rfl, List.append_nil] at this; rw [← this]; exact HBU.out, HB.out, HSF.out⟩
        · have d2 : ((la : Int) != (l.length : Int)) = true := bne_iff_ne.mpr (by omega)
          have d3 : (la != l.length) = true := bne_iff_ne.mpr hla
          have p7 : (0 ≤ (la : Int)) = True := eq_true (by omega)
          have p8 : ((la : Int) ≤ (l.length : Int)) = True := eq_true (by have := HI.out; omega)
          have hex : (lst l).extract la l.length = lst (l.drop la) := by rw [ext_lst, List.take_of_length_le (Nat.le_refl _)]
          clear hla
          go_wp2_with (fail)
-- REG23
          refine start_ (n := 13) (S := fun _ => True) (ds := []) #[false, false, false, false, false, false, false, false, false, false, false, false, false] (by kernel_rfl) rfl rfl trivial (fun hHeld => ?_)
          have HBU4 := Aside0.mk (show Buf wr.drew base gw v xs from HBU.out)
          have HB4 := Aside0.mk (HB.out.drew)
          have HBS4 := Aside0.mk (show base ≤ wr.drew.heap.size from HBS.out)
          have HSF4 := Aside0.mk (show Safe w wr.drew from HSF.out)
          clear HBU HB HBS HSF
          generalize wr.drew = w4 at HBU4 HB4 HBS4 HSF4 ⊢
          refine pure_ (i := 0) (N := (some 118)) (v := ?_) (a' := ?_) #[true, false, false, false, false, false, false, false, false, false, false, false, false] rfl rfl (by kernel_rfl) (fun _ _ _ h => h) (Or.inl ⟨by rfl, ?_⟩) ?_ ?_
          rotate_left
          · intro w'
            go_simp
            with_reducible rfl
          rotate_left
          · simp only [Act.put, List.setIfInBounds_toArray, List.set_cons_zero, List.set_cons_succ, i64_w, i32_w]
            rfl
          refine pure_ (i := 1) (N := (some 119)) (v := ?_) (a' := ?_) #[true, true, false, false, false, false, false, false, false, false, false, false, false] rfl rfl (by kernel_rfl) (fun _ _ _ h => h) (Or.inl ⟨by rfl, ?_⟩) ?_ ?_
          rotate_left
          · intro w'
            go_simp
            with_reducible rfl
          rotate_left
          · simp only [Act.put, List.setIfInBounds_toArray, List.set_cons_zero, List.set_cons_succ, i64_w, i32_w]
            rfl
          refine pure_ (i := 2) (N := (some 120)) (v := ?_) (a' := ?_) #[true, true, true, false, false, false, false, false, false, false, false, false, false] rfl rfl (by kernel_rfl) (fun _ _ _ h => h) (Or.inl ⟨by rfl, ?_⟩) ?_ ?_
          rotate_left
          · intro w'
            go_simp
            with_reducible rfl
          rotate_left
          · simp only [Act.put, List.setIfInBounds_toArray, List.set_cons_zero, List.set_cons_succ, i64_w, i32_w]
            rfl
          refine pure_ (i := 3) (N := (some 121)) (v := ?_) (a' := ?_) #[true, true, true, true, false, false, false, false, false, false, false, false, false] rfl rfl (by kernel_rfl) (fun _ _ _ h => h) (Or.inl ⟨by rfl, ?_⟩) ?_ ?_
          rotate_left
          · intro w'
            go_simp
            with_reducible rfl
          rotate_left
          · simp only [Act.put, List.setIfInBounds_toArray, List.set_cons_zero, List.set_cons_succ, i64_w, i32_w]
            rfl
          refine pure_ (i := 4) (N := (some 122)) (v := ?_) (a' := ?_) #[true, true, true, true, true, false, false, false, false, false, false, false, false] rfl rfl (by kernel_rfl) (fun _ _ _ h => h) (Or.inl ⟨by rfl, ?_⟩) ?_ ?_
          rotate_left
          · intro w'
            go_simp
            with_reducible rfl
          rotate_left
          · simp only [Act.put, List.setIfInBounds_toArray, List.set_cons_zero, List.set_cons_succ, i64_w, i32_w]
            rfl
          refine pure_ (i := 5) (N := (some 123)) (v := ?_) (a' := ?_) #[true, true, true, true, true, true, false, false, false, false, false, false, false] rfl rfl (by kernel_rfl) (fun _ _ _ h => h) (Or.inl ⟨by rfl, ?_⟩) ?_ ?_
          rotate_left
          · intro w'
            go_simp
            with_reducible rfl
          rotate_left
          · simp only [Act.put, List.setIfInBounds_toArray, List.set_cons_zero, List.set_cons_succ, i64_w, i32_w]
            rfl
          refine pure_ (i := 6) (N := (some 124)) (v := ?_) (a' := ?_) #[true, true, true, true, true, true, true, false, false, false, false, false, false] rfl rfl (by kernel_rfl) (fun _ _ _ h => h) (Or.inl ⟨by rfl, ?_⟩) ?_ ?_
          rotate_left
          · intro w'
            go_simp
            with_reducible rfl
          rotate_left
          · simp only [Act.put, List.setIfInBounds_toArray, List.set_cons_zero, List.set_cons_succ, i64_w, i32_w]
            rfl
          refine one_ (i := 7) (N := (some 125)) #[true, true, true, true, true, true, true, true, false, false, false, false, false] rfl rfl (by kernel_rfl) (by decide) (fun K hK => ?_)
          refine call_ (95) #[.pointer (some ⟨gw, 0, none⟩), .string (lst (l.drop la))] (by rfl) rfl (by first | (go_simp; done) | (go_simp; rfl)) ?_
          refine (write_calls w0 w4 base gw v xs (lst (l.drop la)) HBU4.out HB4.out HBS4.out (by have := HX.out; have := HS.out; have := HI.out; show xs.length + (l.drop la).length ≤ _; simp only [List.length_drop]; omega)).mono ?_
          rintro e w5 ⟨rfl, v5, hbu, hb, hsz, hsf⟩
          refine ⟨_, rfl, ?_⟩
          have HBU5 := Aside0.mk hbu
          have HB5 := Aside0.mk hb
          have HBS5 := Aside0.mk (Nat.le_trans HBS4.out hsz)
          have HSF5 := Aside0.mk (HSF4.out.then_ hsf)
          clear hbu hb hsz hsf
          refine hK.out _ _ trivial (fun hHeld => ?_)
          clear hK K
          refine norm_ (a' := ?_) ?_ ?_
          rotate_left
          · show Act.put _ (some 125) _ = _
            simp only [Act.put, List.setIfInBounds_toArray, List.set_cons_zero, List.set_cons_succ, i64_w, i32_w]
            rfl
          refine pure_ (i := 8) (N := (some 117)) (v := ?_) (a' := ?_) #[true, true, true, true, true, true, true, true, true, false, false, false, false] rfl rfl (by kernel_rfl) (fun _ _ _ h => h) (Or.inl ⟨by rfl, ?_⟩) ?_ ?_
          rotate_left
          · intro w'
            go_simp
            with_reducible rfl
          rotate_left
          · simp only [Act.put, List.setIfInBounds_toArray, List.set_cons_zero, List.set_cons_succ, i64_w, i32_w]
            rfl
          refine pure_ (i := 9) (N := (some 126)) (v := ?_) (a' := ?_) #[true, true, true, true, true, true, true, true, true, true, false, false, false] rfl rfl (by kernel_rfl) (fun _ _ _ h => h) (Or.inl ⟨by rfl, ?_⟩) ?_ ?_
          rotate_left
          · intro w'
            go_simp
            with_reducible rfl
          rotate_left
          · simp only [Act.put, List.setIfInBounds_toArray, List.set_cons_zero, List.set_cons_succ, i64_w, i32_w]
            rfl
          refine pure_ (i := 10) (N := (some 127)) (v := ?_) (a' := ?_) #[true, true, true, true, true, true, true, true, true, true, true, false, false] rfl rfl (by kernel_rfl) (fun _ _ _ h => h) (Or.inl ⟨by rfl, ?_⟩) ?_ ?_
          rotate_left
          · intro w'
            go_simp
            with_reducible rfl
          rotate_left
          · simp only [Act.put, List.setIfInBounds_toArray, List.set_cons_zero, List.set_cons_succ, i64_w, i32_w]
            rfl
          refine pure_ (i := 11) (N := (some 10)) (v := ?_) (a' := ?_) #[true, true, true, true, true, true, true, true, true, true, true, true, false] rfl rfl (by kernel_rfl) (fun _ _ _ h => h) (Or.inl ⟨by rfl, ?_⟩) ?_ ?_
          rotate_left
          · intro w'
            go_simp
            with_reducible rfl
          rotate_left
          · simp only [Act.put, List.setIfInBounds_toArray, List.set_cons_zero, List.set_cons_succ, i64_w, i32_w]
            rfl
          refine pure_ (i := 12) (N := (some 7)) (v := ?_) (a' := ?_) #[true, true, true, true, true, true, true, true, true, true, true, true, true] rfl rfl (by kernel_rfl) (fun _ _ _ h => h) (Or.inl ⟨by rfl, ?_⟩) ?_ ?_
          rotate_left
          · intro w'
            go_simp
            with_reducible rfl
          rotate_left
          · simp only [Act.put, List.setIfInBounds_toArray, List.set_cons_zero, List.set_cons_succ, i64_w, i32_w]
            rfl
          refine done_ (by kernel_rfl) ?_
-- END23
          go_wp2_with (fail)
          go_ret2
          exact ⟨⟨_, rfl⟩, v5, by rw [← HF.out]; exact HBU5.out, HB5.out, HSF5.out⟩
end Go.Proofs.Ytkhgmjmfgbpenaa.Trie
