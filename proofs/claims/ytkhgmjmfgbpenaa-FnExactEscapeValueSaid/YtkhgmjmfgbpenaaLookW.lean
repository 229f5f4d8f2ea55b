/- (*strings.genericReplacer).lookup, walked: the key that a text begins with, if any. -/
import Derived.Test.YtkhgmjmfgbpenaaBuildW
import Derived.Test.YtkhgmjmfgbpenaaBytes
namespace Go.Proofs.Ytkhgmjmfgbpenaa.Trie
open Go Go.RowKit Go.Proofs.YtkhgmjmfgbpenaaV.PrintWords Go.Proofs.YtkhgmjmfgbpenaaV.PrintLast Go.Proofs.YtkhgmjmfgbpenaaV.PrintMore Go.Proofs.Ytkhgmjmfgbpenaa.Once
set_option linter.unusedVariables false
set_option linter.unusedSimpArgs false

/-- The places of the bytes: within the table or at its end; no two bytes at one place within it. -/
structure Places (M : List Int) (tn : Nat) : Prop where
  rng : ∀ c, c < 256 → ∃ m : Nat, m ≤ tn ∧ M[c]? = some (m : Int)
  uniq : ∀ (c c' m : Nat), m < tn → M[c]? = some (m : Int) → M[c']? = some (m : Int) → c = c'
/-- The key that a row of bytes begins with. -/
def look (ps : List (Option UInt8 × ByteArray)) : List UInt8 → Option (ByteArray × Nat)
  | [] => none
  | c :: r => match ps.find? (fun p => lead p.1 == c.toNat) with
    | none => none
    | some (some _, val) => some (val, 1)
    | some (none, val) => match r with
      | [] => none
      | d :: _ => if d = 160 then some (val, 2) else none
def lookV : Option (ByteArray × Nat) → Value
  | none => .tuple #[.string eS, .int .i64 0, .bool false]
  | some (v, n) => .tuple #[.string v, .int .i64 (n : Int), .bool true]
theorem neq_ptr (w : World) (x : Option Addr) : (binOp .neq 71 (.pointer x) (.pointer none)).run Try.prog w = .ok (.bool x.isSome) w := by
  cases x <;> (go_simp <;> rfl)
abbrev lst (l : List UInt8) : ByteArray := ⟨⟨l⟩⟩
theorem ext_lst (l : List UInt8) (i j : Nat) : (lst l).extract i j = lst ((l.take j).drop i) := by
  apply WideShapes.bytes_inj
  rw [ByteArray.data_extract, Array.toList_extract]
  simp [List.extract_eq_take_drop, List.drop_take]
theorem ext_one (d : UInt8) (r : List UInt8) : ((lst (d :: r)).extract 0 1).toList = [d] := by
  rw [ext_lst, Go.Proofs.Ytkhgmjmfgbpenaa.Val.toList_data]
  simp
set_option maxRecDepth 100000 in
set_option maxHeartbeats 8000000 in
theorem has_pre (d : UInt8) (r : List UInt8) (w : World) :
    Calls Try.prog 37 #[.string (lst (d :: r)), .string ⟨#[160]⟩] w fun e w' => e = .returned (.bool (d == 160)) ∧ w' = w := by
  have hs : (lst (d :: r)).size = r.length + 1 := rfl
  have c1 : decide ((1 : Int) ≤ ((lst (d :: r)).size : Int)) = true := decide_eq_true (by rw [hs]; omega)
  have c2 : decide (1 ≤ (lst (d :: r)).size) = true := decide_eq_true (by rw [hs]; omega)
  have c3 : ((1 : Int) ≤ ((lst (d :: r)).size : Int)) = True := eq_true (by rw [hs]; omega)
  go_enter Try.func37, Try.ntmps37
  go_wp2
  go_ret
  have e := ext_one d r
  exact ⟨by rw [e]; simp, rfl⟩
theorem ext_tail (c : UInt8) (r : List UInt8) : (lst (c :: r)).extract 1 (lst (c :: r)).size = lst r := by
  rw [ext_lst]
  show lst (((c :: r).take (r.length + 1)).drop 1) = _
  rw [List.take_of_length_le (by simp)]
  rfl
theorem look_none {ps : List (Option UInt8 × ByteArray)} {c : UInt8} (r : List UInt8) (h : ps.find? (fun p => lead p.1 == c.toNat) = none) : look ps (c :: r) = none := by
  simp only [look, h]
section
variable {w : World} {M : List Int} {ps : List (Option UInt8 × ByteArray)} {Ls : List ByteArray} {L np tn m c : Nat} {tv : List Value}
theorem lookNone (PA : Pairs Ls M tn np ps) (hm : M[c]? = some (m : Int)) (hin : m = tn ∨ ∀ j p, j < np → ps[j]? = some p → M[lead p.1]? ≠ some (m : Int)) : ps.find? (fun p => lead p.1 == c) = none := by
  rw [List.find?_eq_none]
  intro p hp hc
  have hc' : lead p.1 = c := by simpa using hc
  obtain ⟨j, hj⟩ := List.mem_iff_getElem?.1 hp
  obtain ⟨m', h1, h2⟩ := PA.inn j p hj
  have hjl : j < np := by
    rw [← PA.len]
    exact (List.getElem?_eq_some_iff.1 hj).1
  rcases hin with e | h
  · rw [hc', hm] at h2
    injection h2 with h2
    omega
  · exact h j p hjl hj (by rw [hc', hm])
theorem lookTab (htp : TabP w M ps L np tv) (PA : Pairs Ls M tn np ps) (P : Places M tn) (hl : tv.length = tn) (hm : M[c]? = some (m : Int)) (hpos : 2 * np ≤ L) (hlt : m < tn) :
    ∃ x, tv[m]? = some (.pointer x) ∧ ((x = none ∧ ps.find? (fun p => lead p.1 == c) = none) ∨ ∃ b k val p, x = some ⟨b, 0, none⟩ ∧ NodeP w k val p b ∧ 0 < p ∧ ps.find? (fun p => lead p.1 == c) = some (k, val)) := by
  rcases htp m (by omega) with ⟨h1, h2⟩ | ⟨j, p, b, h1, h2, h3, h4, h5⟩
  · exact ⟨none, h1, .inl ⟨rfl, lookNone PA hm (.inr h2)⟩⟩
  · refine ⟨_, h4, .inr ⟨b, p.1, p.2, _, rfl, h5, by omega, ?_⟩⟩
    have hc : lead p.1 = c := P.uniq _ _ m hlt h3 hm
    cases hf : ps.find? (fun p => lead p.1 == c) with
    | none =>
      rw [List.find?_eq_none] at hf
      exact absurd (by simpa using hc) (hf p (List.mem_of_getElem? h2))
    | some p' =>
      have hp' := List.mem_of_find?_eq_some hf
      have hc' : lead p'.1 = c := by simpa using List.find?_some hf
      obtain ⟨j', hj'⟩ := List.mem_iff_getElem?.1 hp'
      have := PA.apart j j' p p' h2 hj' (by rw [hc, hc'])
      subst this
      rw [h2] at hj'
      exact hj'.symm
end
set_option maxRecDepth 100000 in
set_option maxHeartbeats 8000000 in
theorem lookup_calls (w : World) (gr gt tn : Nat) (M : List Int) (tv : List Value) (L np : Nat) (ps : List (Option UInt8 × ByteArray)) (s : ByteArray) (hr : w.heap[gr]? = some (.cells (rC gt tn M) 76 (0, 0))) (ht : w.heap[gt]? = some (.cells tv.toArray 71 (0, 0)))
    (hl : tv.length = tn) (htp : TabP w M ps L np tv) (Ls : List ByteArray) (PA : Pairs Ls M tn np ps) (P : Places M tn) (htl : tn ≤ 256) (hpos : 2 * np ≤ L) :
    Calls Try.prog 75 #[.pointer (some ⟨gr, 0, none⟩), .string s, .bool false] w fun e w' => e = .returned (lookV (look ps s.data.toList)) ∧ ∃ n, w' = w.drewN n := by
  have h1 : w.cell? ⟨gr, 1, none⟩ = some (.int .i64 0) := (blk_cell hr 1).trans rfl
  have h4 : w.cell? ⟨gr, 4, none⟩ = some (.slice (some ⟨gt, 0, none⟩) tn tn) := (blk_cell hr 4).trans rfl
  have h5 : w.cell? ⟨gr, 5, none⟩ = some (.int .i64 tn) := (blk_cell hr 5).trans rfl
  have HR := Aside0.mk hr
  have HT := Aside0.mk ht
  have HTP := Aside0.mk htp
  have HL := Aside0.mk hl
  have PP := Aside0.mk P
  have HPA := Aside0.mk PA
  have HPOS := Aside0.mk hpos
  clear hr ht hl htp P PA hpos
  have hnil := neq_nil
  have hnp := neq_ptr
  go_enter Try.func75, Try.ntmps75
  go_wp2_with (fail)
  go_loopg [1, 6, 7, 8, 9, 10, 11] 3 (fun kq v1 v6 v7 v8 v9 v10 v11 w' => (∃ n, w' = w.drewN n) ∧ v6 = .string eS ∧ v7 = .int .i64 0 ∧ v8 = .bool false ∧ v9 = .int .i64 0 ∧
    ((kq = 3 ∧ v1 = .string s ∧ v10 = .pointer (some ⟨gr, 0, none⟩) ∧ v11 = .int .i64 0) ∨
     (kq = 2 ∧ v11 = .int .i64 1 ∧ ∃ c r x, s = lst (c :: r) ∧ v1 = .string (lst r) ∧ v10 = .pointer x ∧
       ((x = none ∧ look ps (c :: r) = none) ∨ ∃ b k val p, x = some ⟨b, 0, none⟩ ∧ NodeP w k val p b ∧ 0 < p ∧ ps.find? (fun p => lead p.1 == c.toNat) = some (k, val))) ∨
     (kq = 1 ∧ v11 = .int .i64 2 ∧ ∃ r b val p, v1 = .string (lst r) ∧ v10 = .pointer (some ⟨b, 0, none⟩) ∧ w.heap[b]? = some (.cells (nodeC val p eS none nilS) 74 (0, 0)) ∧ 0 < p ∧ look ps s.data.toList = some (val, 2))))
  case atStart => exact ⟨⟨0, rfl⟩, rfl, rfl, rfl, rfl, .inl ⟨rfl, rfl, rfl, rfl⟩⟩
  case round =>
    obtain ⟨⟨n, hn⟩, rfl, rfl, rfl, rfl, hst⟩ := hrel
    rcases hst with ⟨rfl, rfl, rfl, rfl⟩ | ⟨rfl, rfl, c, r, x, rfl, rfl, rfl, hx⟩ | ⟨rfl, rfl, r, b, val, p, rfl, rfl, hb, hp, hlook⟩
    · have HN := Aside0.mk hn
      have h1' : wr.cell? ⟨gr, 1, none⟩ = some (.int .i64 0) := by rw [hn]; exact h1
      have h4' : wr.cell? ⟨gr, 4, none⟩ = some (.slice (some ⟨gt, 0, none⟩) tn tn) := by rw [hn]; exact h4
      have h5' : wr.cell? ⟨gr, 5, none⟩ = some (.int .i64 tn) := by rw [hn]; exact h5
      have HR1 := Aside0.mk (show wr.heap[gr]? = some (.cells (rC gt tn M) 76 (0, 0)) from by rw [hn]; exact HR.out)
      have HT1 := Aside0.mk (show wr.heap[gt]? = some (.cells tv.toArray 71 (0, 0)) from by rw [hn]; exact HT.out)
      clear hn
      obtain ⟨⟨l⟩⟩ := s
      cases l with
      | nil =>
        go_wp2_with (fail)
        go_ret3
        exact ⟨rfl, n, HN.out⟩
      | cons c r =>
        have ec : ∀ h, ((({ data := { toList := c :: r } } : ByteArray))[0]'h) = c := fun _ => rfl
        have hcl := c.toNat_lt
        have c1 : ((c.toNat : Int) < 256) = True := eq_true (by omega)
        have c2 : (c.toNat < 256) = True := eq_true (by omega)
        obtain ⟨m, hm1, hm2⟩ := PP.out.rng c.toNat (by omega)
        have hM : wr.cell? ⟨gr, 6 + c.toNat, none⟩ = some (.int .u8 m) := (blk_cell HR1.out _).trans (rC_map hm2)
        have HM2 := Aside0.mk hm2
        clear hm2
        go_wp2_with (fail)
        go_still_tail 7, (by kernel_rfl)
        change wpList _ _ _ _ _ wr.drew
        have HN2 := Aside0.mk (show wr.drew = w.drewN (n + 1) from by rw [HN.out]; rfl)
        have HR2 := Aside0.mk (blk_drew HR1.out)
        have HT2 := Aside0.mk (blk_drew HT1.out)
        replace h4' : wr.drew.cell? ⟨gr, 4, none⟩ = some (.slice (some ⟨gt, 0, none⟩) tn tn) := h4'
        replace h5' : wr.drew.cell? ⟨gr, 5, none⟩ = some (.int .i64 tn) := h5'
        clear HN HR1 HT1 h1' hM
        generalize wr.drew = w2 at HN2 HR2 HT2 h4' h5' ⊢
        by_cases hmt : m = tn
        · have hk := lookNone HPA.out HM2.out (.inl hmt)
          subst hmt
          have HK := Aside0.mk hk
          clear hk
          go_wp2_with (fail)
          go_ret3
          exact ⟨by have e := look_none r HK.out; show _ = Ending.returned (lookV (look ps (c :: r))); rw [e]; rfl, n + 1, HN2.out⟩
        · have e1 : ((m : Int) == (tn : Int)) = false := beq_eq_false_iff_ne.mpr (by omega)
          have e2 : (m == tn) = false := beq_eq_false_iff_ne.mpr hmt
          have q1 : ((m : Int) < (tn : Int)) = True := eq_true (by omega)
          have hx := lookTab HTP.out HPA.out PP.out HL.out HM2.out HPOS.out (by omega)
          obtain ⟨x, hx1, hx2⟩ := hx
          have hcell : w2.cell? ⟨gt, m, none⟩ = some (.pointer x) := (blk_cell HT2.out _).trans (by rw [List.getElem?_toArray]; exact hx1)
          have HX2 := Aside0.mk hx2
          clear hx1 hx2
          go_wp2_with (fail)
          go_roundg 2
          case measure => omega
          case rel => exact ⟨⟨n + 1, HN2.out⟩, rfl, rfl, rfl, rfl, .inr (.inl ⟨rfl, rfl, c, r, x, rfl, by first | rfl | exact congrArg Value.string (ext_tail c r), rfl, HX2.out.imp (fun h => ⟨h.1, look_none r h.2⟩) id⟩)⟩
    · rcases hx with ⟨rfl, hl⟩ | ⟨b, k, val, p, rfl, hnode, hp, hfind⟩
      · have HLK := Aside0.mk hl
        have HN := Aside0.mk hn
        clear hl hn
        go_wp2_with (fail)
        go_ret3
        exact ⟨by show _ = Ending.returned (lookV (look ps (c :: r))); rw [HLK.out]; rfl, n, HN.out⟩
      · cases k with
        | some c0 =>
          have hb : w.heap[b]? = some (.cells (nodeC val p eS none nilS) 74 (0, 0)) := hnode
          have hlook : look ps (lst (c :: r)).data.toList = some (val, 1) := by
            show look ps (c :: r) = _
            simp only [look, hfind]
          clear hnode hfind
          have k0 : wr.cell? ⟨b, 0, none⟩ = some (.string val) := by rw [hn]; exact (blk_cell hb 0).trans rfl
          have k1 : wr.cell? ⟨b, 1, none⟩ = some (.int .i64 p) := by rw [hn]; exact (blk_cell hb 1).trans rfl
          have k2 : wr.cell? ⟨b, 2, none⟩ = some (.string eS) := by rw [hn]; exact (blk_cell hb 2).trans rfl
          have k4 : wr.cell? ⟨b, 4, none⟩ = some nilS := by rw [hn]; exact (blk_cell hb 4).trans rfl
          have kp : decide (0 < p) = true := decide_eq_true hp
          have HN := Aside0.mk hn
          have HLK := Aside0.mk hlook
          clear hn hp hb hlook
          cases r with
          | nil =>
            go_wp2_with (fail)
            go_ret3
            exact ⟨by rw [HLK.out]; rfl, n, HN.out⟩
          | cons d r =>
            go_wp2_with (fail)
            go_ret3
            exact ⟨by rw [HLK.out]; rfl, n, HN.out⟩
        | none =>
          obtain ⟨b3, hb, hb3⟩ := hnode
          have k1 : wr.cell? ⟨b, 1, none⟩ = some (.int .i64 0) := by rw [hn]; exact (blk_cell hb 1).trans rfl
          have k2 : wr.cell? ⟨b, 2, none⟩ = some (.string ⟨#[160]⟩) := by rw [hn]; exact (blk_cell hb 2).trans rfl
          have k3 : wr.cell? ⟨b, 3, none⟩ = some (.pointer (some ⟨b3, 0, none⟩)) := by rw [hn]; exact (blk_cell hb 3).trans rfl
          have k4 : wr.cell? ⟨b, 4, none⟩ = some nilS := by rw [hn]; exact (blk_cell hb 4).trans rfl
          have HN := Aside0.mk hn
          have HB3 := Aside0.mk hb3
          have HPP := Aside0.mk hp
          clear hn hb hb3 hp
          cases r with
          | nil =>
            have HLK := Aside0.mk (show look ps [c] = none from by simp only [look, hfind])
            clear hfind
            go_wp2_with (fail)
            go_ret3
            exact ⟨by show _ = Ending.returned (lookV (look ps [c])); rw [HLK.out]; rfl, n, HN.out⟩
          | cons d r =>
            by_cases hd : d = 160
            · subst hd
              have HLK := Aside0.mk (show look ps (c :: 160 :: r) = some (val, 2) from by simp [look, hfind])
              clear hfind
              have hd1 : ((160 : UInt8) == 160) = true := rfl
              go_wp2_with (first
                | (go_at_call 37; refine (has_pre 160 r _).mono ?_; rintro e w' ⟨rfl, rfl⟩))
              go_roundg 1
              case measure => omega
              case rel => exact ⟨⟨n, HN.out⟩, rfl, rfl, rfl, rfl, .inr (.inr ⟨rfl, rfl, r, b3, val, p, by first | rfl | exact congrArg Value.string (ext_tail 160 r), rfl, HB3.out, HPP.out, HLK.out⟩)⟩
            · have hd1 : (d == 160) = false := beq_eq_false_iff_ne.mpr hd
              have HLK := Aside0.mk (show look ps (c :: d :: r) = none from by simp [look, hfind, hd])
              clear hfind hd
              go_wp2_with (first
                | (go_at_call 37; refine (has_pre d r _).mono ?_; rintro e w' ⟨rfl, rfl⟩))
              go_ret3
              exact ⟨by show _ = Ending.returned (lookV (look ps (c :: d :: r))); rw [HLK.out]; rfl, n, HN.out⟩
    · have k0 : wr.cell? ⟨b, 0, none⟩ = some (.string val) := by rw [hn]; exact (blk_cell hb 0).trans rfl
      have k1 : wr.cell? ⟨b, 1, none⟩ = some (.int .i64 p) := by rw [hn]; exact (blk_cell hb 1).trans rfl
      have k2 : wr.cell? ⟨b, 2, none⟩ = some (.string eS) := by rw [hn]; exact (blk_cell hb 2).trans rfl
      have k4 : wr.cell? ⟨b, 4, none⟩ = some nilS := by rw [hn]; exact (blk_cell hb 4).trans rfl
      have kp : decide (0 < p) = true := decide_eq_true hp
      have HN := Aside0.mk hn
      have HLK := Aside0.mk hlook
      clear hn hp hb hlook
      cases r with
      | nil =>
        go_wp2_with (fail)
        go_ret3
        exact ⟨by rw [HLK.out]; rfl, n, HN.out⟩
      | cons d r =>
        go_wp2_with (fail)
        go_ret3
        exact ⟨by rw [HLK.out]; rfl, n, HN.out⟩
end Go.Proofs.Ytkhgmjmfgbpenaa.Trie
