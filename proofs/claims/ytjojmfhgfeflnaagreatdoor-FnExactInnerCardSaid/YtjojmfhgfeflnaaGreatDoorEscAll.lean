import Derived.Test.YtjojmfhgfeflnaaGreatDoorMkAll
import Derived.Test.YtjojmfhgfeflnaaGreatDoorBytes
import Derived.Stop.Asserts
import Derived.Laws.IdiomStrings
import Derived.Lib.BufferRead
/- Merged: LookW VriteW LoopW ReplW EscW EscT EscV -/
section
/- (*strings.genericReplacer).lookup, walked: the key that a text begins with, if any. -/
namespace Go.Proofs.YtjojmfhgfeflnaaGreatDoor.Trie
open Go Go.RowKit Go.Proofs.YtjojmfhgfeflnaaGreatDoorV.PrintWords Go.Proofs.YtjojmfhgfeflnaaGreatDoorV.PrintLast Go.Proofs.YtjojmfhgfeflnaaGreatDoorV.PrintMore Go.Proofs.YtjojmfhgfeflnaaGreatDoor.Once
set_option linter.unusedVariables false
set_option linter.unusedSimpArgs false

/-- The places of the bytes: within the table or at its end; no two bytes at one place within it. -/
structure Places (M : List Int) (tn : Nat) : Prop where
  rng : ∀ c, c < 256 → ∃ m : Nat, m ≤ tn ∧ M[c]? = some (m : Int)
  uniq : ∀ (c c' m : Nat), m < tn → M[c]? = some (m : Int) → M[c']? = some (m : Int) → c = c'
/-- The key that a row of bytes begins with. -/
def look (ps : List (Option UInt8 × ByteArray)) : List UInt8 → Option (ByteArray × Nat)
  | [] => none
  | c :: r => match ps.find? (fun p => lead p.1 == c.toNat) with
    | none => none
    | some (some _, val) => some (val, 1)
    | some (none, val) => match r with
      | [] => none
      | d :: _ => if d = 160 then some (val, 2) else none
def lookV : Option (ByteArray × Nat) → Value
  | none => .tuple #[.string eS, .int .i64 0, .bool false]
  | some (v, n) => .tuple #[.string v, .int .i64 (n : Int), .bool true]
theorem neq_ptr (w : World) (x : Option Addr) : (binOp .neq 154 (.pointer x) (.pointer none)).run Tryz.prog w = .ok (.bool x.isSome) w := by
  cases x <;> (go_simp <;> rfl)
abbrev lst (l : List UInt8) : ByteArray := ⟨⟨l⟩⟩
theorem ext_lst (l : List UInt8) (i j : Nat) : (lst l).extract i j = lst ((l.take j).drop i) := by
  apply WideShapes.bytes_inj
  rw [ByteArray.data_extract, Array.toList_extract]
  simp [List.extract_eq_take_drop, List.drop_take]
theorem ext_one (d : UInt8) (r : List UInt8) : ((lst (d :: r)).extract 0 1).toList = [d] := by
  rw [ext_lst, Go.Proofs.YtjojmfhgfeflnaaGreatDoor.Val.toList_data]
  simp
set_option maxRecDepth 100000 in
set_option maxHeartbeats 8000000 in
theorem has_pre (d : UInt8) (r : List UInt8) (w : World) :
    Calls Tryz.prog 89 #[.string (lst (d :: r)), .string ⟨#[160]⟩] w fun e w' => e = .returned (.bool (d == 160)) ∧ w' = w := by
  have hs : (lst (d :: r)).size = r.length + 1 := rfl
  have c1 : decide ((1 : Int) ≤ ((lst (d :: r)).size : Int)) = true := decide_eq_true (by rw [hs]; omega)
  have c2 : decide (1 ≤ (lst (d :: r)).size) = true := decide_eq_true (by rw [hs]; omega)
  have c3 : ((1 : Int) ≤ ((lst (d :: r)).size : Int)) = True := eq_true (by rw [hs]; omega)
  go_enter Tryz.func89, Tryz.ntmps89
  go_wp2
  go_ret
  have e := ext_one d r
  exact ⟨by rw [e]; simp, rfl⟩
theorem ext_tail (c : UInt8) (r : List UInt8) : (lst (c :: r)).extract 1 (lst (c :: r)).size = lst r := by
  rw [ext_lst]
  show lst (((c :: r).take (r.length + 1)).drop 1) = _
  rw [List.take_of_length_le (by simp)]
  rfl
theorem look_none {ps : List (Option UInt8 × ByteArray)} {c : UInt8} (r : List UInt8) (h : ps.find? (fun p => lead p.1 == c.toNat) = none) : look ps (c :: r) = none := by
  simp only [look, h]
section
variable {w : World} {M : List Int} {ps : List (Option UInt8 × ByteArray)} {Ls : List ByteArray} {L np tn m c : Nat} {tv : List Value}
theorem lookNone (PA : Pairs Ls M tn np ps) (hm : M[c]? = some (m : Int)) (hin : m = tn ∨ ∀ j p, j < np → ps[j]? = some p → M[lead p.1]? ≠ some (m : Int)) : ps.find? (fun p => lead p.1 == c) = none := by
  rw [List.find?_eq_none]
  intro p hp hc
  have hc' : lead p.1 = c := by simpa using hc
  obtain ⟨j, hj⟩ := List.mem_iff_getElem?.1 hp
  obtain ⟨m', h1, h2⟩ := PA.inn j p hj
  have hjl : j < np := by
    rw [← PA.len]
    exact (List.getElem?_eq_some_iff.1 hj).1
  rcases hin with e | h
  · rw [hc', hm] at h2
    injection h2 with h2
    omega
  · exact h j p hjl hj (by rw [hc', hm])
theorem lookTab (htp : TabP w M ps L np tv) (PA : Pairs Ls M tn np ps) (P : Places M tn) (hl : tv.length = tn) (hm : M[c]? = some (m : Int)) (hpos : 2 * np ≤ L) (hlt : m < tn) :
    ∃ x, tv[m]? = some (.pointer x) ∧ ((x = none ∧ ps.find? (fun p => lead p.1 == c) = none) ∨ ∃ b k val p, x = some ⟨b, 0, none⟩ ∧ NodeP w k val p b ∧ 0 < p ∧ ps.find? (fun p => lead p.1 == c) = some (k, val)) := by
  rcases htp m (by omega) with ⟨h1, h2⟩ | ⟨j, p, b, h1, h2, h3, h4, h5⟩
  · exact ⟨none, h1, .inl ⟨rfl, lookNone PA hm (.inr h2)⟩⟩
  · refine ⟨_, h4, .inr ⟨b, p.1, p.2, _, rfl, h5, by omega, ?_⟩⟩
    have hc : lead p.1 = c := P.uniq _ _ m hlt h3 hm
    cases hf : ps.find? (fun p => lead p.1 == c) with
    | none =>
      rw [List.find?_eq_none] at hf
      exact absurd (by simpa using hc) (hf p (List.mem_of_getElem? h2))
    | some p' =>
      have hp' := List.mem_of_find?_eq_some hf
      have hc' : lead p'.1 = c := by simpa using List.find?_some hf
      obtain ⟨j', hj'⟩ := List.mem_iff_getElem?.1 hp'
      have := PA.apart j j' p p' h2 hj' (by rw [hc, hc'])
      subst this
      rw [h2] at hj'
      exact hj'.symm
end
set_option maxRecDepth 100000 in
set_option maxHeartbeats 8000000 in
theorem lookup_calls (w : World) (gr gt tn : Nat) (M : List Int) (tv : List Value) (L np : Nat) (ps : List (Option UInt8 × ByteArray)) (s : ByteArray) (hr : w.heap[gr]? = some (.cells (rC gt tn M) 159 (0, 0))) (ht : w.heap[gt]? = some (.cells tv.toArray 154 (0, 0)))
    (hl : tv.length = tn) (htp : TabP w M ps L np tv) (Ls : List ByteArray) (PA : Pairs Ls M tn np ps) (P : Places M tn) (htl : tn ≤ 256) (hpos : 2 * np ≤ L) :
    Calls Tryz.prog 125 #[.pointer (some ⟨gr, 0, none⟩), .string s, .bool false] w fun e w' => e = .returned (lookV (look ps s.data.toList)) ∧ ∃ n, w' = w.drewN n := by
  have h1 : w.cell? ⟨gr, 1, none⟩ = some (.int .i64 0) := (blk_cell hr 1).trans rfl
  have h4 : w.cell? ⟨gr, 4, none⟩ = some (.slice (some ⟨gt, 0, none⟩) tn tn) := (blk_cell hr 4).trans rfl
  have h5 : w.cell? ⟨gr, 5, none⟩ = some (.int .i64 tn) := (blk_cell hr 5).trans rfl
  have HR := Aside0.mk hr
  have HT := Aside0.mk ht
  have HTP := Aside0.mk htp
  have HL := Aside0.mk hl
  have PP := Aside0.mk P
  have HPA := Aside0.mk PA
  have HPOS := Aside0.mk hpos
  clear hr ht hl htp P PA hpos
  have hnil := neq_nil
  have hnp := neq_ptr
  go_enter Tryz.func125, Tryz.ntmps125
  go_wp2_with (fail)
  go_loopg [1, 6, 7, 8, 9, 10, 11] 3 (fun kq v1 v6 v7 v8 v9 v10 v11 w' => (∃ n, w' = w.drewN n) ∧ v6 = .string eS ∧ v7 = .int .i64 0 ∧ v8 = .bool false ∧ v9 = .int .i64 0 ∧
    ((kq = 3 ∧ v1 = .string s ∧ v10 = .pointer (some ⟨gr, 0, none⟩) ∧ v11 = .int .i64 0) ∨
     (kq = 2 ∧ v11 = .int .i64 1 ∧ ∃ c r x, s = lst (c :: r) ∧ v1 = .string (lst r) ∧ v10 = .pointer x ∧
       ((x = none ∧ look ps (c :: r) = none) ∨ ∃ b k val p, x = some ⟨b, 0, none⟩ ∧ NodeP w k val p b ∧ 0 < p ∧ ps.find? (fun p => lead p.1 == c.toNat) = some (k, val))) ∨
     (kq = 1 ∧ v11 = .int .i64 2 ∧ ∃ r b val p, v1 = .string (lst r) ∧ v10 = .pointer (some ⟨b, 0, none⟩) ∧ w.heap[b]? = some (.cells (nodeC val p eS none nilS) 157 (0, 0)) ∧ 0 < p ∧ look ps s.data.toList = some (val, 2))))
  case atStart => exact ⟨⟨0, rfl⟩, rfl, rfl, rfl, rfl, .inl ⟨rfl, rfl, rfl, rfl⟩⟩
  case round =>
    obtain ⟨⟨n, hn⟩, rfl, rfl, rfl, rfl, hst⟩ := hrel
    rcases hst with ⟨rfl, rfl, rfl, rfl⟩ | ⟨rfl, rfl, c, r, x, rfl, rfl, rfl, hx⟩ | ⟨rfl, rfl, r, b, val, p, rfl, rfl, hb, hp, hlook⟩
    · have HN := Aside0.mk hn
      have h1' : wr.cell? ⟨gr, 1, none⟩ = some (.int .i64 0) := by rw [hn]; exact h1
      have h4' : wr.cell? ⟨gr, 4, none⟩ = some (.slice (some ⟨gt, 0, none⟩) tn tn) := by rw [hn]; exact h4
      have h5' : wr.cell? ⟨gr, 5, none⟩ = some (.int .i64 tn) := by rw [hn]; exact h5
      have HR1 := Aside0.mk (show wr.heap[gr]? = some (.cells (rC gt tn M) 159 (0, 0)) from by rw [hn]; exact HR.out)
      have HT1 := Aside0.mk (show wr.heap[gt]? = some (.cells tv.toArray 154 (0, 0)) from by rw [hn]; exact HT.out)
      clear hn
      obtain ⟨⟨l⟩⟩ := s
      cases l with
      | nil =>
        go_wp2_with (fail)
        go_ret3
        exact ⟨rfl, n, HN.out⟩
      | cons c r =>
        have ec : ∀ h, ((({ data := { toList := c :: r } } : ByteArray))[0]'h) = c := fun _ => rfl
        have hcl := c.toNat_lt
        have c1 : ((c.toNat : Int) < 256) = True := eq_true (by omega)
        have c2 : (c.toNat < 256) = True := eq_true (by omega)
        obtain ⟨m, hm1, hm2⟩ := PP.out.rng c.toNat (by omega)
        have hM : wr.cell? ⟨gr, 6 + c.toNat, none⟩ = some (.int .u8 m) := (blk_cell HR1.out _).trans (rC_map hm2)
        have HM2 := Aside0.mk hm2
        clear hm2
        go_wp2_with (fail)
        go_still_tail 7, (by kernel_rfl)
        change wpList _ _ _ _ _ wr.drew
        have HN2 := Aside0.mk (show wr.drew = w.drewN (n + 1) from by rw [HN.out]; rfl)
        have HR2 := Aside0.mk (blk_drew HR1.out)
        have HT2 := Aside0.mk (blk_drew HT1.out)
        replace h4' : wr.drew.cell? ⟨gr, 4, none⟩ = some (.slice (some ⟨gt, 0, none⟩) tn tn) := h4'
        replace h5' : wr.drew.cell? ⟨gr, 5, none⟩ = some (.int .i64 tn) := h5'
        clear HN HR1 HT1 h1' hM
        generalize wr.drew = w2 at HN2 HR2 HT2 h4' h5' ⊢
        by_cases hmt : m = tn
        · have hk := lookNone HPA.out HM2.out (.inl hmt)
          subst hmt
          have HK := Aside0.mk hk
          clear hk
          go_wp2_with (fail)
          go_ret3
          exact ⟨by have e := look_none r HK.out; show _ = Ending.returned (lookV (look ps (c :: r))); rw [e]; rfl, n + 1, HN2.out⟩
        · have e1 : ((m : Int) == (tn : Int)) = false := beq_eq_false_iff_ne.mpr (by omega)
          have e2 : (m == tn) = false := beq_eq_false_iff_ne.mpr hmt
          have q1 : ((m : Int) < (tn : Int)) = True := eq_true (by omega)
          have hx := lookTab HTP.out HPA.out PP.out HL.out HM2.out HPOS.out (by omega)
          obtain ⟨x, hx1, hx2⟩ := hx
          have hcell : w2.cell? ⟨gt, m, none⟩ = some (.pointer x) := (blk_cell HT2.out _).trans (by rw [List.getElem?_toArray]; exact hx1)
          have HX2 := Aside0.mk hx2
          clear hx1 hx2
          go_wp2_with (fail)
          go_roundg 2
          case measure => omega
          case rel => exact ⟨⟨n + 1, HN2.out⟩, rfl, rfl, rfl, rfl, .inr (.inl ⟨rfl, rfl, c, r, x, rfl, by first | rfl | exact congrArg Value.string (ext_tail c r), rfl, HX2.out.imp (fun h => ⟨h.1, look_none r h.2⟩) id⟩)⟩
    · rcases hx with ⟨rfl, hl⟩ | ⟨b, k, val, p, rfl, hnode, hp, hfind⟩
      · have HLK := Aside0.mk hl
        have HN := Aside0.mk hn
        clear hl hn
        go_wp2_with (fail)
        go_ret3
        exact ⟨by show _ = Ending.returned (lookV (look ps (c :: r))); rw [HLK.out]; rfl, n, HN.out⟩
      · cases k with
        | some c0 =>
          have hb : w.heap[b]? = some (.cells (nodeC val p eS none nilS) 157 (0, 0)) := hnode
          have hlook : look ps (lst (c :: r)).data.toList = some (val, 1) := by
            show look ps (c :: r) = _
            simp only [look, hfind]
          clear hnode hfind
          have k0 : wr.cell? ⟨b, 0, none⟩ = some (.string val) := by rw [hn]; exact (blk_cell hb 0).trans rfl
          have k1 : wr.cell? ⟨b, 1, none⟩ = some (.int .i64 p) := by rw [hn]; exact (blk_cell hb 1).trans rfl
          have k2 : wr.cell? ⟨b, 2, none⟩ = some (.string eS) := by rw [hn]; exact (blk_cell hb 2).trans rfl
          have k4 : wr.cell? ⟨b, 4, none⟩ = some nilS := by rw [hn]; exact (blk_cell hb 4).trans rfl
          have kp : decide (0 < p) = true := decide_eq_true hp
          have HN := Aside0.mk hn
          have HLK := Aside0.mk hlook
          clear hn hp hb hlook
          cases r with
          | nil =>
            go_wp2_with (fail)
            go_ret3
            exact ⟨by rw [HLK.out]; rfl, n, HN.out⟩
          | cons d r =>
            go_wp2_with (fail)
            go_ret3
            exact ⟨by rw [HLK.out]; rfl, n, HN.out⟩
        | none =>
          obtain ⟨b3, hb, hb3⟩ := hnode
          have k1 : wr.cell? ⟨b, 1, none⟩ = some (.int .i64 0) := by rw [hn]; exact (blk_cell hb 1).trans rfl
          have k2 : wr.cell? ⟨b, 2, none⟩ = some (.string ⟨#[160]⟩) := by rw [hn]; exact (blk_cell hb 2).trans rfl
          have k3 : wr.cell? ⟨b, 3, none⟩ = some (.pointer (some ⟨b3, 0, none⟩)) := by rw [hn]; exact (blk_cell hb 3).trans rfl
          have k4 : wr.cell? ⟨b, 4, none⟩ = some nilS := by rw [hn]; exact (blk_cell hb 4).trans rfl
          have HN := Aside0.mk hn
          have HB3 := Aside0.mk hb3
          have HPP := Aside0.mk hp
          clear hn hb hb3 hp
          cases r with
          | nil =>
            have HLK := Aside0.mk (show look ps [c] = none from by simp only [look, hfind])
            clear hfind
            go_wp2_with (fail)
            go_ret3
            exact ⟨by show _ = Ending.returned (lookV (look ps [c])); rw [HLK.out]; rfl, n, HN.out⟩
          | cons d r =>
            by_cases hd : d = 160
            · subst hd
              have HLK := Aside0.mk (show look ps (c :: 160 :: r) = some (val, 2) from by simp [look, hfind])
              clear hfind
              have hd1 : ((160 : UInt8) == 160) = true := rfl
              go_wp2_with (first
                | (go_at_call 89; refine (has_pre 160 r _).mono ?_; rintro e w' ⟨rfl, rfl⟩))
              go_roundg 1
              case measure => omega
              case rel => exact ⟨⟨n, HN.out⟩, rfl, rfl, rfl, rfl, .inr (.inr ⟨rfl, rfl, r, b3, val, p, by first | rfl | exact congrArg Value.string (ext_tail 160 r), rfl, HB3.out, HPP.out, HLK.out⟩)⟩
            · have hd1 : (d == 160) = false := beq_eq_false_iff_ne.mpr hd
              have HLK := Aside0.mk (show look ps (c :: d :: r) = none from by simp [look, hfind, hd])
              clear hfind hd
              go_wp2_with (first
                | (go_at_call 89; refine (has_pre d r _).mono ?_; rintro e w' ⟨rfl, rfl⟩))
              go_ret3
              exact ⟨by show _ = Ending.returned (lookV (look ps (c :: d :: r))); rw [HLK.out]; rfl, n, HN.out⟩
    · have k0 : wr.cell? ⟨b, 0, none⟩ = some (.string val) := by rw [hn]; exact (blk_cell hb 0).trans rfl
      have k1 : wr.cell? ⟨b, 1, none⟩ = some (.int .i64 p) := by rw [hn]; exact (blk_cell hb 1).trans rfl
      have k2 : wr.cell? ⟨b, 2, none⟩ = some (.string eS) := by rw [hn]; exact (blk_cell hb 2).trans rfl
      have k4 : wr.cell? ⟨b, 4, none⟩ = some nilS := by rw [hn]; exact (blk_cell hb 4).trans rfl
      have kp : decide (0 < p) = true := decide_eq_true hp
      have HN := Aside0.mk hn
      have HLK := Aside0.mk hlook
      clear hn hp hb hlook
      cases r with
      | nil =>
        go_wp2_with (fail)
        go_ret3
        exact ⟨by rw [HLK.out]; rfl, n, HN.out⟩
      | cons d r =>
        go_wp2_with (fail)
        go_ret3
        exact ⟨by rw [HLK.out]; rfl, n, HN.out⟩
end Go.Proofs.YtjojmfhgfeflnaaGreatDoor.Trie
end
section
/- Words of the printed proofs, as far as these texts use them. -/
namespace Go.Proofs.YtjojmfhgfeflnaaGreatDoor.Trie
open Go Go.RowKit Go.Proofs.YtjojmfhgfeflnaaGreatDoorV.PrintWords Go.Proofs.YtjojmfhgfeflnaaGreatDoorV.PrintLast Go.Proofs.YtjojmfhgfeflnaaGreatDoorV.PrintMore Go.Proofs.YtjojmfhgfeflnaaGreatDoor.Once
set_option linter.unusedVariables false
set_option linter.unusedSimpArgs false
def Safe (W W1 : World) : Prop := ∀ (g : Nat) (cs : Array Value) (T : TypeId), T = 159 ∨ T = 154 ∨ T = 157 → W.heap[g]? = some (.cells cs T (0, 0)) → W1.heap[g]? = some (.cells cs T (0, 0))
theorem Safe.refl (W : World) : Safe W W := fun _ _ _ _ h => h
theorem Safe.then_ {W W1 W2 : World} (h : Safe W W1) (k : Safe W1 W2) : Safe W W2 := fun g cs T hT hg => k g cs T hT (h g cs T hT hg)
theorem Safe.below {W W1 : World} (h : Below W.heap.size W W1) : Safe W W1 := fun g cs T _ hg => blk_below hg h
theorem Safe.drewN (W : World) (n : Nat) : Safe W (W.drewN n) := fun g cs T _ hg => hg
theorem Safe.grown {W W1 : World} {row : Option Nat} (h : W.grownBy W1 row) (hr : ∀ k, row = some k → ∃ cells, W.heap[k]? = some (.cells cells 5 (0, 0))) : Safe W W1 := fun g cs T hT hg =>
  blk_grown hg h (fun e => by
    obtain ⟨cells, hc⟩ := hr g e.symm
    exact blk_ne hg hc (by rcases hT with rfl | rfl | rfl <;> decide) rfl)
theorem Safe.set {W : World} {gw : Nat} {cs0 : Array Value} (h : W.heap[gw]? = some (.cells cs0 205 (0, 0))) (i : Nat) (u : Value) : Safe W (W.setCell ⟨gw, i, none⟩ u) := fun g cs T hT hg =>
  blk_far' hg (blk_ne hg h (by rcases hT with rfl | rfl | rfl <;> decide)) i u
theorem NodeP.safe {W W1 : World} {k : Option UInt8} {val : ByteArray} {p : Int} {b : Nat} (h : NodeP W k val p b) (hs : Safe W W1) : NodeP W1 k val p b := by
  cases k with
  | some c => exact hs _ _ _ (.inr (.inr rfl)) h
  | none =>
    obtain ⟨b3, h1, h2⟩ := h
    exact ⟨b3, hs _ _ _ (.inr (.inr rfl)) h1, hs _ _ _ (.inr (.inr rfl)) h2⟩
theorem TabP.safe {W W1 : World} {M : List Int} {ps : List (Option UInt8 × ByteArray)} {len q : Nat} {tv : List Value} (h : TabP W M ps len q tv) (hs : Safe W W1) : TabP W1 M ps len q tv := fun m hm => by
  rcases h m hm with h | ⟨j, p, b, h1, h2, h3, h4, h5⟩
  · exact .inl h
  · exact .inr ⟨j, p, b, h1, h2, h3, h4, h5.safe hs⟩
def Buf (W : World) (base gw : Nat) (v : Value) (xs : List Int) : Prop := base ≤ gw ∧ W.heap[gw]? = some (.cells #[v] 205 (0, 0)) ∧ W.ownsRow base 5 1 v xs.length (nums .u8 xs)
theorem own_slice {W : World} {base : Nat} {v : Value} {xs : List Int} (h : W.ownsRow base 5 1 v xs.length (nums .u8 xs)) : ∃ A c, v = .slice A xs.length c :=
  Kd.R_slice (Kd.R_of_own (enc := Value.int .u8) (h1 := fun _ => rfl) (ok := fun _ => True) h (fun _ _ => trivial))
set_option maxRecDepth 100000 in
set_option maxHeartbeats 8000000 in
theorem write_calls (w0 w : World) (base gw : Nat) (v : Value) (xs : List Int) (s : ByteArray) (hb : Buf w base gw v xs) (hB : Below base w0 w) (hbs : base ≤ w.heap.size) (hl : xs.length + s.size ≤ 140737488355328) :
    Calls Tryz.prog 143 #[.pointer (some ⟨gw, 0, none⟩), .string s] w fun e w' => e = .returned (.tuple #[.int .i64 s.size, .nilIface]) ∧ ∃ v', Buf w' base gw v' (xs ++ bytesOf s) ∧ Below base w0 w' ∧ w.heap.size ≤ w'.heap.size ∧ Safe w w' := by
  have HBU := Aside0.mk hb
  have HB := Aside0.mk hB
  have HS := Aside0.mk hbs
  have HL := Aside0.mk hl
  have k0 : w.cell? ⟨gw, 0, none⟩ = some v := (blk_cell hb.2.1 0).trans rfl
  clear hb hB hbs hl
  go_enter Tryz.func143, Tryz.ntmps143
  go_wp2_with (first
    | ((with_reducible refine gate_dst (N := 11) rfl ?_); refine print_append_str (w0 := w0) base ?hg ?so ?xo 205 9 5 ?ho Tryz.underlying205 Tryz.underlying9 ?hinfo v xs s ?hs11 ?hx11 HBU.out.2.2 HB.out HS.out HL.out ?_; (case hg => rfl); (case ho => rfl); (case hinfo => kernel_rfl); (case hs11 => rfl); (case hx11 => rfl); intro v1 w1 ho1 hb1 hg1; obtain ⟨A1, c1, ev1⟩ := own_slice ho1; have EV1 := Aside0.mk ev1; have HO1 := Aside0.mk ho1; have HB1 := Aside0.mk hb1; have HTY := Aside0.mk (show ∀ k, v.ownBlock = some k → ∃ cells, w.heap[k]? = some (.cells cells 5 (0, 0)) from own_typed HBU.out.2.2); have HS1 := Aside0.mk (Safe.grown hg1 HTY.out); have HX1 := Aside0.mk (show w1.heap[gw]? = some (.cells #[v] 205 (0, 0)) from blk_grown HBU.out.2.1 hg1 (fun e => by obtain ⟨cells, hc⟩ := HTY.out gw e.symm; exact blk_ne HBU.out.2.1 hc (by decide) rfl)); have SZ1 := Aside0.mk hg1.size; clear ho1 hb1 hg1 k0; rw [ev1]; clear ev1; have k0 : w1.cell? ⟨gw, 0, none⟩ = some v := (blk_cell HX1.out 0).trans rfl; have f0 := blk_frozen HX1.out 0)
    | ((with_reducible refine gate_store (t := 205) (p := 12) rfl ?_); refine store_event (t := 205) (p := 12) (v := ?vo1) (w1 := w1.setCell ⟨gw, 0, none⟩ v1) ?hg ?ho ?hn ?hr ?_; (case ho => rfl); (case hg => rfl); (case hn => rfl); (case hr => rw [EV1.out]; first | (go_simp; done) | (go_simp; rfl)); intro w2 hw2; have HX2 := Aside0.mk (show w2.heap[gw]? = some (.cells #[v1] 205 (0, 0)) from by rw [hw2]; exact blk_put HX1.out 0 _ rfl); have HS2 := Aside0.mk (show Safe w w2 from by rw [hw2]; exact HS1.out.then_ (Safe.set HX1.out _ _)); have HB2 := Aside0.mk (show Below base w0 w2 from by rw [hw2]; exact HB1.out.setCell (p := ⟨gw, 0, none⟩) HBU.out.1 _); have HO2 := Aside0.mk (show w2.ownsRow base 5 1 v1 (xs ++ bytesOf s).length (nums .u8 (xs ++ bytesOf s)) from by rw [hw2]; exact own_move HO1.out (fun k hk => Below.heap_setCell w1 ⟨gw, 0, none⟩ v1 k (fun e => by obtain ⟨cells, hc⟩ := own_typed HO1.out k hk; exact blk_ne HX1.out hc (by decide) e.symm))); have SZ2 := Aside0.mk (show w.heap.size ≤ w2.heap.size from by rw [hw2]; simpa [World.setCell] using SZ1.out); clear hw2 k0 f0))
  go_ret2
  exact ⟨rfl, v1, ⟨HBU.out.1, HX2.out, HO2.out⟩, HB2.out, SZ2.out, HS2.out⟩
set_option maxRecDepth 100000 in
set_option maxHeartbeats 8000000 in
theorem getW (w : World) (gw : Nat) : Calls Tryz.prog 124 #[.iface 206 (.pointer (some ⟨gw, 0, none⟩))] w fun e w' => e = .returned (.iface 206 (.pointer (some ⟨gw, 0, none⟩))) ∧ w' = w := by
  have hta := run_typeAssert_hasB (P := Tryz.prog) (t := 206) Tryz.underlying210 (by kernel_rfl)
  go_enter Tryz.func124, Tryz.ntmps124
  go_wp2
  go_ret
  exact ⟨rfl, rfl⟩
end Go.Proofs.YtjojmfhgfeflnaaGreatDoor.Trie
end
section
/- (*strings.genericReplacer).WriteString's loop and Replace, walked. -/
namespace Go.Proofs.YtjojmfhgfeflnaaGreatDoor.Trie
open Go Go.RowKit Go.Proofs.YtjojmfhgfeflnaaGreatDoorV.PrintWords Go.Proofs.YtjojmfhgfeflnaaGreatDoorV.PrintLast Go.Proofs.YtjojmfhgfeflnaaGreatDoorV.PrintMore Go.Proofs.YtjojmfhgfeflnaaGreatDoor.Once
set_option linter.unusedVariables false
set_option linter.unusedSimpArgs false

abbrev Ps := List (Option UInt8 × ByteArray)
/-- A text with its keys replaced. -/
def esc (ps : Ps) : Nat → List UInt8 → List UInt8
  | 0, _ => []
  | k + 1, l => match look ps l with
    | some (v, n) => v.data.toList ++ esc ps k (l.drop n)
    | none => match l with
      | [] => []
      | c :: r => c :: esc ps k r
theorem look_len {ps : Ps} {l : List UInt8} {v : ByteArray} {n : Nat} (h : look ps l = some (v, n)) : 1 ≤ n ∧ n ≤ l.length := by
  cases l with
  | nil => cases h
  | cons c r =>
    simp only [look] at h
    split at h
    · cases h
    · cases h
      exact ⟨Nat.le_refl _, by simp⟩
    · split at h
      · cases h
      · split at h
        · cases h
          exact ⟨by omega, by simp⟩
        · cases h
theorem esc_more (ps : Ps) : ∀ (k k' : Nat) (l : List UInt8), l.length < k → l.length < k' → esc ps k l = esc ps k' l
  | 0, _, _, h, _ => by omega
  | _, 0, _, _, h => by omega
  | k + 1, k' + 1, l, h, h' => by
    unfold esc
    cases hl : look ps l with
    | some p =>
      obtain ⟨v, n⟩ := p
      have := look_len hl
      show v.data.toList ++ _ = v.data.toList ++ _
      rw [esc_more ps k k' (l.drop n) (by rw [List.length_drop]; omega) (by rw [List.length_drop]; omega)]
    | none =>
      cases l with
      | nil => rfl
      | cons c r =>
        show c :: _ = c :: _
        rw [esc_more ps k k' r (by simp at h; omega) (by simp at h'; omega)]
theorem esc_none {ps : Ps} {c : UInt8} {r : List UInt8} (k : Nat) (h : look ps (c :: r) = none) : esc ps (k + 1) (c :: r) = c :: esc ps k r := by
  show (match look ps (c :: r) with | some (v, n) => v.data.toList ++ esc ps k ((c :: r).drop n) | none => c :: esc ps k r) = _
  rw [h]
theorem esc_some {ps : Ps} {l : List UInt8} {v : ByteArray} {n : Nat} (k : Nat) (h : look ps l = some (v, n)) : esc ps (k + 1) l = v.data.toList ++ esc ps k (l.drop n) := by
  rw [esc.eq_def]
  simp only [h]
def B (l : List UInt8) : List Int := l.map fun b => (b.toNat : Int)
theorem bytesOf_lst (l : List UInt8) : bytesOf (lst l) = B l := rfl
theorem B_length (l : List UInt8) : (B l).length = l.length := List.length_map _
theorem B_app (a b : List UInt8) : B (a ++ b) = B a ++ B b := List.map_append
theorem step_skip {ps : Ps} {xs T : List Int} {l : List UInt8} {i la k : Nat} {c : UInt8} (h : xs ++ B ((l.take i).drop la) ++ B (esc ps (k + 1) (l.drop i)) = T) (e : l.drop i = c :: l.drop (i + 1)) (hn : look ps (c :: l.drop (i + 1)) = none) (hla : la ≤ i) (hi : i < l.length) :
    xs ++ B ((l.take (i + 1)).drop la) ++ B (esc ps k (l.drop (i + 1))) = T := by
  rw [e, esc_none k hn] at h
  have hc : l[i]? = some c := by
    have := congrArg (fun q => q[0]?) e
    simpa [List.getElem?_drop] using this
  have h1 : l.take (i + 1) = l.take i ++ [c] := by
    rw [List.take_add_one, hc]
    rfl
  rw [h1, List.drop_append_of_le_length (by rw [List.length_take]; omega), B_app, ← h]
  simp [B]
theorem step_key {ps : Ps} {xs T : List Int} {l : List UInt8} {i la k n : Nat} {v : ByteArray} (h : xs ++ B ((l.take i).drop la) ++ B (esc ps (k + 1) (l.drop i)) = T) (hn : look ps (l.drop i) = some (v, n)) (hk : l.length - i ≤ k) (k' : Nat) (hk' : l.length - (i + n) < k') :
    (xs ++ B ((l.take i).drop la) ++ bytesOf v) ++ B ((l.take (i + n)).drop (i + n)) ++ B (esc ps k' (l.drop (i + n))) = T := by
  have hl := look_len hn
  simp only [List.length_drop] at hl
  rw [esc_some k hn, List.drop_drop, esc_more ps k k' _ (by simp only [List.length_drop]; omega) (by simp only [List.length_drop]; omega), B_app] at h
  have h0 : (l.take (i + n)).drop (i + n) = [] := List.drop_eq_nil_of_le (by rw [List.length_take]; omega)
  rw [h0, ← h]
  show (xs ++ B ((l.take i).drop la) ++ bytesOf v) ++ [] ++ _ = _
  rw [List.append_nil, List.append_assoc, List.append_assoc, List.append_assoc]
  rfl
theorem look_val {ps : Ps} {l : List UInt8} {v : ByteArray} {n : Nat} (h : look ps l = some (v, n)) : ∃ p, p ∈ ps ∧ p.2 = v := by
  cases l with
  | nil => cases h
  | cons c r =>
    simp only [look] at h
    split at h
    · cases h
    · rename_i hf
      cases h
      exact ⟨_, List.mem_of_find?_eq_some hf, rfl⟩
    · rename_i hf
      split at h
      · cases h
      · split at h
        · cases h
          exact ⟨_, List.mem_of_find?_eq_some hf, rfl⟩
        · cases h
theorem meth_row : (Tryz.prog.info? 206).map (fun i => (i.methods.find? (·.name == "WriteString")).map (fun m => (m.path.toList, m.func))) = some (some ([], some (143, true))) := by kernel_rfl
theorem nil_ahead (w : World) (a : Addr) : (nilAhead 322 206 (.pointer (some a)) "WriteString").run Tryz.prog w = .ok (some false) w := by
  have hm := meth_row
  cases hq : Tryz.prog.info? 206 with
  | none => simp [hq] at hm
  | some i =>
    simp only [hq, Option.map_some, Option.some.injEq] at hm
    obtain ⟨m, h1, h2⟩ := Option.map_eq_some_iff.1 hm
    simp only [Prod.mk.injEq] at h2
    unfold nilAhead
    simp [Sem.run_bind, typeInfo, hq, h1, h2.1, h2.2, followBlind, Result.andThen]
/-- A call that is entered, whatever the callee's kind. -/
theorem goesR_ {P : Program} {ops : Array Oper} {Q : Exit → Act → World → Prop} {rest : List Oper} {oi : Oper} {a : Act} {w : World} (N : Option Tmp) (hd : oi.dst = N) (hg : oi.guard = none) (f : FuncId) (args : Array Value) (hrun : (execOp a.eval oi).run P w = .ok (.enter f args) w)
    (h : Calls P f args w fun e w' => ∃ v, e = .returned v ∧ wpList P ops Q rest (a.put N v) w') : wpList P ops Q (oi :: rest) a w := by
  refine wpList_plain hg fun K hK => ?_
  unfold Oper.wp
  rw [hrun, Oper.upon_enter]
  refine h.mono fun e w'' hh => ?_
  obtain ⟨v, rfl, hk⟩ := hh
  subst hd
  exact hK _ _ hk
set_option maxRecDepth 100000 in
set_option maxHeartbeats 16000000 in
theorem writeString_calls (w0 w : World) (base gr gt tn gw : Nat) (M : List Int) (tv : List Value) (L np : Nat) (ps : Ps) (Ls : List ByteArray) (l : List UInt8) (v0 : Value)
    (hr : w.heap[gr]? = some (.cells (rC gt tn M) 159 (0, 0))) (ht : w.heap[gt]? = some (.cells tv.toArray 154 (0, 0))) (hl : tv.length = tn) (htp : TabP w M ps L np tv) (PA : Pairs Ls M tn np ps) (P : Places M tn) (htl : tn ≤ 256) (hpos : 2 * np ≤ L)
    (hb : Buf w base gw v0 []) (hB : Below base w0 w) (hbs : base ≤ w.heap.size) (hs : l.length ≤ 1048576) (hv : ∀ p, p ∈ ps → p.2.size ≤ 1000) :
    Calls Tryz.prog 123 #[.pointer (some ⟨gr, 0, none⟩), .iface 206 (.pointer (some ⟨gw, 0, none⟩)), .string (lst l)] w fun e w' => (∃ n, e = .returned (.tuple #[.int .i64 n, .nilIface])) ∧ ∃ v', Buf w' base gw v' (B (esc ps (l.length + 1) l)) ∧ Below base w0 w' ∧ Safe w w' := by
  have HR := Aside0.mk hr
  have HT := Aside0.mk ht
  have HL := Aside0.mk hl
  have HTP := Aside0.mk htp
  have HPA := Aside0.mk PA
  have PP := Aside0.mk P
  have HTL := Aside0.mk htl
  have HPOS := Aside0.mk hpos
  have HBU := Aside0.mk hb
  have HB := Aside0.mk hB
  have HBS := Aside0.mk hbs
  have HS := Aside0.mk hs
  have HV := Aside0.mk hv
  clear hr ht hl htp PA P htl hpos hb hB hbs hs hv
  have hna := nil_ahead
  go_enter Tryz.func123, Tryz.ntmps123
  go_wp2_with (first
    | (go_at_call 124; refine (getW w gw).mono ?_; rintro e w' ⟨rfl, hw⟩; replace hw := hw.symm; subst hw))
  go_loopg [6, 7, 9, 11, 12] (l.length + 1) (fun kq v6 v7 v9 v11 v12 w' => ∃ (i la : Nat) (x : Int) (v : Value) (xs : List Int), v6 = .int .i64 x ∧ v7 = .nilIface ∧ v9 = .int .i64 (la : Int) ∧ v11 = .bool false ∧ v12 = .int .i64 (i : Int) ∧ Aside0 (kq + i = l.length + 1 ∧ la ≤ i ∧ la ≤ l.length) ∧
    Aside0 (xs ++ B ((l.take i).drop la) ++ B (esc ps kq (l.drop i)) = B (esc ps (l.length + 1) l)) ∧ Aside0 (xs.length ≤ 1000 * la) ∧ Aside0 (Buf w' base gw v xs) ∧ Aside0 (Below base w0 w') ∧ Aside0 (base ≤ w'.heap.size) ∧ Aside0 (Safe w w'))
  case atStart => exact ⟨0, 0, 0, v0, [], rfl, rfl, rfl, rfl, rfl, ⟨by omega, by omega, by omega⟩, ⟨by simp [B]⟩, ⟨by simp⟩, HBU, HB, HBS, ⟨Safe.refl w⟩⟩
  case round =>
    clear HBU HB HBS
    obtain ⟨i, la, x, v, xs, rfl, rfl, rfl, rfl, rfl, HI, HE, HX, HBU, HB, HBS, HSF⟩ := hrel
    have hlen : (lst l).size = l.length := rfl
    have HR1 := Aside0.mk (HSF.out _ _ _ (.inl rfl) HR.out)
    have HT1 := Aside0.mk (HSF.out _ _ _ (.inr (.inl rfl)) HT.out)
    have HTP1 := Aside0.mk (HTP.out.safe HSF.out)
    have h1' : wr.cell? ⟨gr, 1, none⟩ = some (.int .i64 0) := (blk_cell HR1.out 1).trans rfl
    have h4' : wr.cell? ⟨gr, 4, none⟩ = some (.slice (some ⟨gt, 0, none⟩) tn tn) := (blk_cell HR1.out 4).trans rfl
    have h5' : wr.cell? ⟨gr, 5, none⟩ = some (.int .i64 tn) := (blk_cell HR1.out 5).trans rfl
    have hwi : wrap64 ((i : Int) + 1) = ((i + 1 : Nat) : Int) := by have := HS.out; have := HI.out; unfold wrap64; omega
    by_cases hi : i < l.length
    · have d1 : decide ((i : Int) ≤ (l.length : Int)) = true := decide_eq_true (by omega)
      have d1' : decide (i ≤ l.length) = true := decide_eq_true (by omega)
      have d2 : ((i : Int) != (l.length : Int)) = true := bne_iff_ne.mpr (by omega)
      have p5 : (0 ≤ (i : Int)) = True := eq_true (by omega)
      have q5 : ((i : Int) < (l.length : Int)) = True := eq_true (by omega)
      have q6 : ((i : Int) ≤ (l.length : Int)) = True := eq_true (by omega)
      obtain ⟨c, ecl⟩ : ∃ c : UInt8, c = l[i] := ⟨_, rfl⟩
      have ED := Aside0.mk (show l.drop i = c :: l.drop (i + 1) from by rw [ecl]; exact List.drop_eq_getElem_cons hi)
      have ec : ∀ h, ((lst l)[(i : Int).toNat]'h) = c := fun _ => ecl.symm
      have ec2 : ∀ h, ((lst l)[i]'h) = c := fun _ => ecl.symm
      have hcl := c.toNat_lt
      have c1 : ((c.toNat : Int) < 256) = True := eq_true (by omega)
      have c2 : (c.toNat < 256) = True := eq_true (by omega)
      obtain ⟨m, hm1, hm2⟩ := PP.out.rng c.toNat (by omega)
      have htl := HTL.out
      have hM : wr.cell? ⟨gr, 6 + c.toNat, none⟩ = some (.int .u8 m) := (blk_cell HR1.out _).trans (rC_map hm2)
      have HM2 := Aside0.mk hm2
      have II := Aside0.mk hi
      clear hm2 ecl hi
      go_wp2_with (fail)
      go_still_tail 9, (by kernel_rfl)
      change wpList _ _ _ _ _ wr.drew
      have HR2 := Aside0.mk (blk_drew HR1.out)
      have HT2 := Aside0.mk (blk_drew HT1.out)
      have HTP2 := Aside0.mk (show TabP wr.drew M ps L np tv from HTP1.out)
      have HBU2 := Aside0.mk (show Buf wr.drew base gw v xs from HBU.out)
      have HB2 := Aside0.mk (HB.out.drew)
      have HBS2 := Aside0.mk (show base ≤ wr.drew.heap.size from HBS.out)
      have HSF2 := Aside0.mk (show Safe w wr.drew from HSF.out)
      replace h4' : wr.drew.cell? ⟨gr, 4, none⟩ = some (.slice (some ⟨gt, 0, none⟩) tn tn) := h4'
      replace h5' : wr.drew.cell? ⟨gr, 5, none⟩ = some (.int .i64 tn) := h5'
      clear HR1 HT1 HTP1 h1' hM HBU HB HBS HSF
      generalize wr.drew = w2 at HR2 HT2 HTP2 HBU2 HB2 HBS2 HSF2 h4' h5' ⊢
      obtain ⟨k, hk⟩ : ∃ k, gk = k + 1 := ⟨gk - 1, by have := HI.out; have := II.out; omega⟩
      have HK := Aside0.mk hk
      clear hk
      by_cases hmt : m = tn
      · have hln := lookNone HPA.out HM2.out (.inl hmt)
        have HLN := Aside0.mk (look_none (l.drop (i + 1)) hln)
        subst hmt
        clear hln
        go_wp2_with (fail)
        go_roundg k
        case measure => have := HK.out; omega
        case rel => exact ⟨i + 1, la, x, v, xs, rfl, rfl, rfl, rfl, by rw [hwi], ⟨by have := HI.out; have := HK.out; omega, by have := HI.out; omega, HI.out.2.2⟩, ⟨step_skip (by have := HE.out; rw [HK.out] at this; exact this) ED.out HLN.out HI.out.2.1 II.out⟩, HX, HBU2, HB2, HBS2, HSF2⟩
      · have e1 : ((m : Int) == (tn : Int)) = false := beq_eq_false_iff_ne.mpr (by omega)
        have e2 : (m == tn) = false := beq_eq_false_iff_ne.mpr hmt
        have q1 : ((m : Int) < (tn : Int)) = True := eq_true (by omega)
        obtain ⟨x1, hx1, hx2⟩ := lookTab HTP2.out HPA.out PP.out HL.out HM2.out HPOS.out (by omega)
        have hcell : w2.cell? ⟨gt, m, none⟩ = some (.pointer x1) := (blk_cell HT2.out _).trans (by rw [List.getElem?_toArray]; exact hx1)
        clear hx1
        rcases hx2 with ⟨rfl, hfn⟩ | ⟨b, k0, val, p, rfl, -, -, hfs⟩
        · have HLN := Aside0.mk (look_none (l.drop (i + 1)) hfn)
          clear hfn
          go_wp2_with (fail)
          go_roundg k
          case measure => have := HK.out; omega
          case rel => exact ⟨i + 1, la, x, v, xs, rfl, rfl, rfl, rfl, by rw [hwi], ⟨by have := HI.out; have := HK.out; omega, by have := HI.out; omega, HI.out.2.2⟩, ⟨step_skip (by have := HE.out; rw [HK.out] at this; exact this) ED.out HLN.out HI.out.2.1 II.out⟩, HX, HBU2, HB2, HBS2, HSF2⟩
        · clear hfs
          have hei : (lst l).extract i l.length = lst (l.drop i) := by rw [ext_lst, List.take_of_length_le (Nat.le_refl _)]
          cases hlk : look ps (l.drop i) with
          | none =>
            have HLK := Aside0.mk hlk
            have HLN := Aside0.mk (show look ps (c :: l.drop (i + 1)) = none from by rw [← ED.out]; exact hlk)
            clear hlk
            go_wp2_with (first
              | (go_at_call 125; refine (lookup_calls w2 gr gt tn M tv L np ps _ HR2.out HT2.out HL.out HTP2.out Ls HPA.out PP.out HTL.out HPOS.out).mono ?_; rintro e w3 ⟨he, n1, hw3⟩; obtain rfl : e = .returned (.tuple #[.string eS, .int .i64 0, .bool false]) := (by rw [he]; show Ending.returned (lookV (look ps (l.drop i))) = _; rw [HLK.out]; rfl); clear he; have HR3 := Aside0.mk (show w3.heap[gr]? = some (.cells (rC gt tn M) 159 (0, 0)) from by rw [hw3]; exact HR2.out); have HBU3 := Aside0.mk (show Buf w3 base gw v xs from by rw [hw3]; exact HBU2.out); have HB3 := Aside0.mk (show Below base w0 w3 from by rw [hw3]; exact pw_below_drewN HB2.out n1); have HBS3 := Aside0.mk (show base ≤ w3.heap.size from by rw [hw3]; exact HBS2.out); have HSF3 := Aside0.mk (show Safe w w3 from by rw [hw3]; exact HSF2.out); clear hw3 HBU2 HB2 HBS2 HSF2 HT2 HTP2 HR2 h4' h5' hcell))
            go_roundg k
            case measure => have := HK.out; omega
            case rel => exact ⟨i + 1, la, x, v, xs, rfl, rfl, rfl, rfl, by rw [hwi], ⟨by have := HI.out; have := HK.out; omega, by have := HI.out; omega, HI.out.2.2⟩, ⟨step_skip (by have := HE.out; rw [HK.out] at this; exact this) ED.out HLN.out HI.out.2.1 II.out⟩, HX, HBU3, HB3, HBS3, HSF3⟩
          | some pr =>
            obtain ⟨val', n⟩ := pr
            have HLK := Aside0.mk hlk
            have hnl := look_len hlk
            simp only [List.length_drop] at hnl
            have n0 : ((n : Int) == 0) = false := beq_eq_false_iff_ne.mpr (by omega)
            have n0' : (n == 0) = false := beq_eq_false_iff_ne.mpr (by omega)
            have NL := Aside0.mk hnl
            have hla : la ≤ i := HI.out.2.1
            have hex : (lst l).extract la i = lst ((l.take i).drop la) := ext_lst l la i
            have p7 : (0 ≤ (la : Int)) = True := eq_true (by omega)
            have p8 : ((la : Int) ≤ (i : Int)) = True := eq_true (by omega)
            clear hlk hnl
            go_wp2_with (first
              | (go_at_call 125; refine (lookup_calls w2 gr gt tn M tv L np ps _ HR2.out HT2.out HL.out HTP2.out Ls HPA.out PP.out HTL.out HPOS.out).mono ?_; rintro e w3 ⟨he, n1, hw3⟩; obtain rfl : e = .returned (.tuple #[.string val', .int .i64 (n : Int), .bool true]) := (by rw [he]; show Ending.returned (lookV (look ps (l.drop i))) = _; rw [HLK.out]; rfl); clear he; have HR3 := Aside0.mk (show w3.heap[gr]? = some (.cells (rC gt tn M) 159 (0, 0)) from by rw [hw3]; exact HR2.out); have HBU3 := Aside0.mk (show Buf w3 base gw v xs from by rw [hw3]; exact HBU2.out); have HB3 := Aside0.mk (show Below base w0 w3 from by rw [hw3]; exact pw_below_drewN HB2.out n1); have HBS3 := Aside0.mk (show base ≤ w3.heap.size from by rw [hw3]; exact HBS2.out); have HSF3 := Aside0.mk (show Safe w w3 from by rw [hw3]; exact HSF2.out); clear hw3 HBU2 HB2 HBS2 HSF2 HT2 HTP2 HR2 h4' h5' hcell))
-- REG13
            refine start_ (n := 14) (S := fun _ => True) (ds := []) #[false, false, false, false, false, false, false, false, false, false, false, false, false, false] (by kernel_rfl) rfl rfl trivial (fun hHeld => ?_)
            have HBU4 := Aside0.mk (show Buf w3.drew base gw v xs from HBU3.out)
            have HB4 := Aside0.mk (HB3.out.drew)
            have HBS4 := Aside0.mk (show base ≤ w3.drew.heap.size from HBS3.out)
            have HSF4 := Aside0.mk (show Safe w w3.drew from HSF3.out)
            clear HBU3 HB3 HBS3 HSF3
            generalize w3.drew = w4 at HBU4 HB4 HBS4 HSF4 ⊢
            refine pure_ (i := 0) (N := (some 80)) (v := ?_) (a' := ?_) #[true, false, false, false, false, false, false, false, false, false, false, false, false, false] rfl rfl (by kernel_rfl) (fun _ _ _ h => h) (Or.inl ⟨by rfl, ?_⟩) ?_ ?_
            rotate_left
            · intro w'
              go_simp
              with_reducible rfl
            rotate_left
            · simp only [Act.put, List.setIfInBounds_toArray, List.set_cons_zero, List.set_cons_succ, i64_w, i32_w]
              rfl
            refine pure_ (i := 1) (N := (some 81)) (v := ?_) (a' := ?_) #[true, true, false, false, false, false, false, false, false, false, false, false, false, false] rfl rfl (by kernel_rfl) (fun _ _ _ h => h) (Or.inl ⟨by rfl, ?_⟩) ?_ ?_
            rotate_left
            · intro w'
              go_simp
              with_reducible rfl
            rotate_left
            · simp only [Act.put, List.setIfInBounds_toArray, List.set_cons_zero, List.set_cons_succ, i64_w, i32_w]
              rfl
            refine pure_ (i := 2) (N := (some 82)) (v := ?_) (a' := ?_) #[true, true, true, false, false, false, false, false, false, false, false, false, false, false] rfl rfl (by kernel_rfl) (fun _ _ _ h => h) (Or.inl ⟨by rfl, ?_⟩) ?_ ?_
            rotate_left
            · intro w'
              go_simp
              with_reducible rfl
            rotate_left
            · simp only [Act.put, List.setIfInBounds_toArray, List.set_cons_zero, List.set_cons_succ, i64_w, i32_w]
              rfl
            refine pure_ (i := 3) (N := (some 83)) (v := ?_) (a' := ?_) #[true, true, true, true, false, false, false, false, false, false, false, false, false, false] rfl rfl (by kernel_rfl) (fun _ _ _ h => h) (Or.inl ⟨by rfl, ?_⟩) ?_ ?_
            rotate_left
            · intro w'
              go_simp
              with_reducible rfl
            rotate_left
            · simp only [Act.put, List.setIfInBounds_toArray, List.set_cons_zero, List.set_cons_succ, i64_w, i32_w]
              rfl
            refine pure_ (i := 4) (N := (some 84)) (v := ?_) (a' := ?_) #[true, true, true, true, true, false, false, false, false, false, false, false, false, false] rfl rfl (by kernel_rfl) (fun _ _ _ h => h) (Or.inl ⟨by rfl, ?_⟩) ?_ ?_
            rotate_left
            · intro w'
              go_simp
              with_reducible rfl
            rotate_left
            · simp only [Act.put, List.setIfInBounds_toArray, List.set_cons_zero, List.set_cons_succ, i64_w, i32_w]
              rfl
            refine pure_ (i := 5) (N := (some 85)) (v := ?_) (a' := ?_) #[true, true, true, true, true, true, false, false, false, false, false, false, false, false] rfl rfl (by kernel_rfl) (fun _ _ _ h => h) (Or.inl ⟨by rfl, ?_⟩) ?_ ?_
            rotate_left
            · intro w'
              go_simp
              with_reducible rfl
            rotate_left
            · simp only [Act.put, List.setIfInBounds_toArray, List.set_cons_zero, List.set_cons_succ, i64_w, i32_w]
              rfl
            refine pure_ (i := 6) (N := (some 86)) (v := ?_) (a' := ?_) #[true, true, true, true, true, true, true, false, false, false, false, false, false, false] rfl rfl (by kernel_rfl) (fun _ _ _ h => h) (Or.inl ⟨by rfl, ?_⟩) ?_ ?_
            rotate_left
            · intro w'
              go_simp
              with_reducible rfl
            rotate_left
            · simp only [Act.put, List.setIfInBounds_toArray, List.set_cons_zero, List.set_cons_succ, i64_w, i32_w]
              rfl
            refine pure_ (i := 7) (N := (some 87)) (v := ?_) (a' := ?_) #[true, true, true, true, true, true, true, true, false, false, false, false, false, false] rfl rfl (by kernel_rfl) (fun _ _ _ h => h) (Or.inl ⟨by rfl, ?_⟩) ?_ ?_
            rotate_left
            · intro w'
              go_simp
              with_reducible rfl
            rotate_left
            · simp only [Act.put, List.setIfInBounds_toArray, List.set_cons_zero, List.set_cons_succ, i64_w, i32_w]
              rfl
            refine one_ (i := 8) (N := (some 88)) #[true, true, true, true, true, true, true, true, true, false, false, false, false, false] rfl rfl (by kernel_rfl) (by decide) (fun K hK => ?_)
            refine call_ (143) #[.pointer (some ⟨gw, 0, none⟩), .string (lst ((l.take i).drop la))] (by rfl) rfl (by first | (go_simp; done) | (go_simp; rfl)) ?_
            refine (write_calls w0 w4 base gw v xs (lst ((l.take i).drop la)) HBU4.out HB4.out HBS4.out (by have := HX.out; have := HS.out; have := HI.out; show xs.length + ((l.take i).drop la).length ≤ _; simp only [List.length_drop, List.length_take]; omega)).mono ?_
            rintro e w5 ⟨rfl, v5, hbu, hb, hsz, hsf⟩
            refine ⟨_, rfl, ?_⟩
            have HBU5 := Aside0.mk hbu
            have HB5 := Aside0.mk hb
            have HBS5 := Aside0.mk (Nat.le_trans HBS4.out hsz)
            have HSF5 := Aside0.mk (HSF4.out.then_ hsf)
            clear hbu hb hsz hsf
            refine hK.out _ _ trivial (fun hHeld => ?_)
            clear hK K
            refine norm_ (a' := ?_) ?_ ?_
            rotate_left
            · show Act.put _ (some 88) _ = _
              simp only [Act.put, List.setIfInBounds_toArray, List.set_cons_zero, List.set_cons_succ, i64_w, i32_w]
              rfl
            refine pure_ (i := 9) (N := (some 79)) (v := ?_) (a' := ?_) #[true, true, true, true, true, true, true, true, true, true, false, false, false, false] rfl rfl (by kernel_rfl) (fun _ _ _ h => h) (Or.inl ⟨by rfl, ?_⟩) ?_ ?_
            rotate_left
            · intro w'
              go_simp
              with_reducible rfl
            rotate_left
            · simp only [Act.put, List.setIfInBounds_toArray, List.set_cons_zero, List.set_cons_succ, i64_w, i32_w]
              rfl
            refine pure_ (i := 10) (N := (some 89)) (v := ?_) (a' := ?_) #[true, true, true, true, true, true, true, true, true, true, true, false, false, false] rfl rfl (by kernel_rfl) (fun _ _ _ h => h) (Or.inl ⟨by rfl, ?_⟩) ?_ ?_
            rotate_left
            · intro w'
              go_simp
              with_reducible rfl
            rotate_left
            · simp only [Act.put, List.setIfInBounds_toArray, List.set_cons_zero, List.set_cons_succ, i64_w, i32_w]
              rfl
            refine pure_ (i := 11) (N := (some 90)) (v := ?_) (a' := ?_) #[true, true, true, true, true, true, true, true, true, true, true, true, false, false] rfl rfl (by kernel_rfl) (fun _ _ _ h => h) (Or.inl ⟨by rfl, ?_⟩) ?_ ?_
            rotate_left
            · intro w'
              go_simp
              with_reducible rfl
            rotate_left
            · simp only [Act.put, List.setIfInBounds_toArray, List.set_cons_zero, List.set_cons_succ, i64_w, i32_w]
              rfl
            refine pure_ (i := 12) (N := (some 10)) (v := ?_) (a' := ?_) #[true, true, true, true, true, true, true, true, true, true, true, true, true, false] rfl rfl (by kernel_rfl) (fun _ _ _ h => h) (Or.inl ⟨by rfl, ?_⟩) ?_ ?_
            rotate_left
            · intro w'
              go_simp
              with_reducible rfl
            rotate_left
            · simp only [Act.put, List.setIfInBounds_toArray, List.set_cons_zero, List.set_cons_succ, i64_w, i32_w]
              rfl
            refine pure_ (i := 13) (N := (some 7)) (v := ?_) (a' := ?_) #[true, true, true, true, true, true, true, true, true, true, true, true, true, true] rfl rfl (by kernel_rfl) (fun _ _ _ h => h) (Or.inl ⟨by rfl, ?_⟩) ?_ ?_
            rotate_left
            · intro w'
              go_simp
              with_reducible rfl
            rotate_left
            · simp only [Act.put, List.setIfInBounds_toArray, List.set_cons_zero, List.set_cons_succ, i64_w, i32_w]
              rfl
            refine done_ (by kernel_rfl) ?_
-- END13
            have HVS := Aside0.mk (show val'.size ≤ 1000 from by obtain ⟨p, h1, h2⟩ := look_val HLK.out; rw [← h2]; exact HV.out p h1)
            have hwn : wrap64 ((i : Int) + (n : Int)) = ((i + n : Nat) : Int) := by have := HS.out; have := NL.out; unfold wrap64; omega
            go_wp2_with (first
              | ((with_reducible refine gate_dst (N := 99) rfl ?_); refine goesR_ (some 99) rfl rfl 143 #[.pointer (some ⟨gw, 0, none⟩), .string val'] ?hrun ?_; (case hrun => first | (go_simp; done) | (go_simp; rfl)); refine (write_calls w0 w5 base gw v5 _ val' HBU5.out HB5.out HBS5.out (by have := HX.out; have := HS.out; have := HI.out; have := HVS.out; simp only [List.length_append, bytesOf_lst, bytesOf_length, B_length, List.length_drop, List.length_take]; omega)).mono ?_; rintro e w6 ⟨rfl, v6, hbu, hb, hsz, hsf⟩; refine ⟨_, rfl, ?_⟩; have HBU6 := Aside0.mk hbu; have HB6 := Aside0.mk hb; have HBS6 := Aside0.mk (Nat.le_trans HBS5.out hsz); have HSF6 := Aside0.mk (HSF5.out.then_ hsf); clear hbu hb hsz hsf HBU5 HB5 HBS5 HSF5))
            go_roundg (l.length + 1 - (i + n))
            case measure => have := HK.out; have := NL.out; have := HI.out; omega
            case rel => exact ⟨i + n, i + n, _, v6, _, rfl, rfl, by rw [hwn], rfl, by rw [hwn], ⟨by have := NL.out; omega, Nat.le_refl _, by have := NL.out; have := II.out; omega⟩, ⟨step_key (by have := HE.out; rw [HK.out] at this; exact this) HLK.out (by have := HI.out; have := HK.out; omega) _ (by have := NL.out; have := II.out; omega)⟩, ⟨by have := HX.out; have := HI.out; have := HVS.out; have := NL.out; simp only [List.length_append, bytesOf_lst, bytesOf_length, B_length, List.length_drop, List.length_take]; omega⟩, HBU6, HB6, HBS6, HSF6⟩
    · by_cases hi2 : i = l.length
      · subst hi2
        have d1 : decide ((l.length : Int) ≤ (l.length : Int)) = true := decide_eq_true (Int.le_refl _)
        have d1' : decide (l.length ≤ l.length) = true := decide_eq_true (Nat.le_refl _)
        have d2 : ((l.length : Int) != (l.length : Int)) = false := by simp
        have d3 : (l.length != l.length) = false := by simp
        have q6 : ((l.length : Int) ≤ (l.length : Int)) = True := eq_true (Int.le_refl _)
        have p5 : (0 ≤ (l.length : Int)) = True := eq_true (by omega)
        have hei : (lst l).extract l.length l.length = lst [] := by rw [ext_lst]; simp
        have HLK := Aside0.mk (show look ps [] = none from rfl)
        go_wp2_with (first
          | (go_at_call 125; refine (lookup_calls wr gr gt tn M tv L np ps _ HR1.out HT1.out HL.out HTP1.out Ls HPA.out PP.out HTL.out HPOS.out).mono ?_; rintro e w3 ⟨he, n1, hw3⟩; obtain rfl : e = .returned (.tuple #[.string eS, .int .i64 0, .bool false]) := (by rw [he]; first | rfl | (rw [hei]; rfl)); clear he; have HBU3 := Aside0.mk (show Buf w3 base gw v xs from by rw [hw3]; exact HBU.out); have HB3 := Aside0.mk (show Below base w0 w3 from by rw [hw3]; exact pw_below_drewN HB.out n1); have HBS3 := Aside0.mk (show base ≤ w3.heap.size from by rw [hw3]; exact HBS.out); have HSF3 := Aside0.mk (show Safe w w3 from by rw [hw3]; exact HSF.out); clear hw3 HBU HB HBS HSF HT1 HTP1 HR1 h1' h4' h5'))
        have EK := Aside0.mk (show gk = 1 from by have := HI.out; omega)
        go_roundg 0
        case measure => have := EK.out; omega
        case rel => exact ⟨l.length + 1, la, x, v, xs, rfl, rfl, rfl, rfl, by rw [hwi], ⟨by omega, by have := HI.out; omega, HI.out.2.2⟩, ⟨by have := HE.out; rw [EK.out, show l.drop l.length = [] from List.drop_length, show esc ps 1 [] = [] from rfl, List.take_of_length_le (Nat.le_refl _)] at this; rw [List.take_of_length_le (by omega)]; exact this⟩, HX, HBU3, HB3, HBS3, HSF3⟩
      · have d1 : decide ((i : Int) ≤ (l.length : Int)) = false := decide_eq_false (by omega)
        have d1' : decide (i ≤ l.length) = false := decide_eq_false (by omega)
        have EK := Aside0.mk (show gk = 0 from by have := HI.out; omega)
        have HF := Aside0.mk (show xs ++ B (l.drop la) = B (esc ps (l.length + 1) l) from by
          have := HE.out
          rw [EK.out, List.take_of_length_le (by omega), show esc ps 0 (l.drop i) = [] from rfl] at this
          rw [← this]
          show _ = _ ++ []
          rw [List.append_nil])
        by_cases hla : la = l.length
        · have d2 : ((la : Int) != (l.length : Int)) = false := by rw [hla]; simp
          have d3 : (la != l.length) = false := by rw [hla]; simp
          have HLA := Aside0.mk hla
          clear hla
          go_wp2_with (fail)
          go_ret2
          exact ⟨⟨_, rfl⟩, v, by have := HF.out; rw [HLA.out, List.drop_length, show B [] = [] from rfl, List.append_nil] at this; rw [← this]; exact HBU.out, HB.out, HSF.out⟩
        · have d2 : ((la : Int) != (l.length : Int)) = true := bne_iff_ne.mpr (by omega)
          have d3 : (la != l.length) = true := bne_iff_ne.mpr hla
          have p7 : (0 ≤ (la : Int)) = True := eq_true (by omega)
          have p8 : ((la : Int) ≤ (l.length : Int)) = True := eq_true (by have := HI.out; omega)
          have hex : (lst l).extract la l.length = lst (l.drop la) := by rw [ext_lst, List.take_of_length_le (Nat.le_refl _)]
          clear hla
          go_wp2_with (fail)
-- REG23
          refine start_ (n := 13) (S := fun _ => True) (ds := []) #[false, false, false, false, false, false, false, false, false, false, false, false, false] (by kernel_rfl) rfl rfl trivial (fun hHeld => ?_)
          have HBU4 := Aside0.mk (show Buf wr.drew base gw v xs from HBU.out)
          have HB4 := Aside0.mk (HB.out.drew)
          have HBS4 := Aside0.mk (show base ≤ wr.drew.heap.size from HBS.out)
          have HSF4 := Aside0.mk (show Safe w wr.drew from HSF.out)
          clear HBU HB HBS HSF
          generalize wr.drew = w4 at HBU4 HB4 HBS4 HSF4 ⊢
          refine pure_ (i := 0) (N := (some 118)) (v := ?_) (a' := ?_) #[true, false, false, false, false, false, false, false, false, false, false, false, false] rfl rfl (by kernel_rfl) (fun _ _ _ h => h) (Or.inl ⟨by rfl, ?_⟩) ?_ ?_
          rotate_left
          · intro w'
            go_simp
            with_reducible rfl
          rotate_left
          · simp only [Act.put, List.setIfInBounds_toArray, List.set_cons_zero, List.set_cons_succ, i64_w, i32_w]
            rfl
          refine pure_ (i := 1) (N := (some 119)) (v := ?_) (a' := ?_) #[true, true, false, false, false, false, false, false, false, false, false, false, false] rfl rfl (by kernel_rfl) (fun _ _ _ h => h) (Or.inl ⟨by rfl, ?_⟩) ?_ ?_
          rotate_left
          · intro w'
            go_simp
            with_reducible rfl
          rotate_left
          · simp only [Act.put, List.setIfInBounds_toArray, List.set_cons_zero, List.set_cons_succ, i64_w, i32_w]
            rfl
          refine pure_ (i := 2) (N := (some 120)) (v := ?_) (a' := ?_) #[true, true, true, false, false, false, false, false, false, false, false, false, false] rfl rfl (by kernel_rfl) (fun _ _ _ h => h) (Or.inl ⟨by rfl, ?_⟩) ?_ ?_
          rotate_left
          · intro w'
            go_simp
            with_reducible rfl
          rotate_left
          · simp only [Act.put, List.setIfInBounds_toArray, List.set_cons_zero, List.set_cons_succ, i64_w, i32_w]
            rfl
          refine pure_ (i := 3) (N := (some 121)) (v := ?_) (a' := ?_) #[true, true, true, true, false, false, false, false, false, false, false, false, false] rfl rfl (by kernel_rfl) (fun _ _ _ h => h) (Or.inl ⟨by rfl, ?_⟩) ?_ ?_
          rotate_left
          · intro w'
            go_simp
            with_reducible rfl
          rotate_left
          · simp only [Act.put, List.setIfInBounds_toArray, List.set_cons_zero, List.set_cons_succ, i64_w, i32_w]
            rfl
          refine pure_ (i := 4) (N := (some 122)) (v := ?_) (a' := ?_) #[true, true, true, true, true, false, false, false, false, false, false, false, false] rfl rfl (by kernel_rfl) (fun _ _ _ h => h) (Or.inl ⟨by rfl, ?_⟩) ?_ ?_
          rotate_left
          · intro w'
            go_simp
            with_reducible rfl
          rotate_left
          · simp only [Act.put, List.setIfInBounds_toArray, List.set_cons_zero, List.set_cons_succ, i64_w, i32_w]
            rfl
          refine pure_ (i := 5) (N := (some 123)) (v := ?_) (a' := ?_) #[true, true, true, true, true, true, false, false, false, false, false, false, false] rfl rfl (by kernel_rfl) (fun _ _ _ h => h) (Or.inl ⟨by rfl, ?_⟩) ?_ ?_
          rotate_left
          · intro w'
            go_simp
            with_reducible rfl
          rotate_left
          · simp only [Act.put, List.setIfInBounds_toArray, List.set_cons_zero, List.set_cons_succ, i64_w, i32_w]
            rfl
          refine pure_ (i := 6) (N := (some 124)) (v := ?_) (a' := ?_) #[true, true, true, true, true, true, true, false, false, false, false, false, false] rfl rfl (by kernel_rfl) (fun _ _ _ h => h) (Or.inl ⟨by rfl, ?_⟩) ?_ ?_
          rotate_left
          · intro w'
            go_simp
            with_reducible rfl
          rotate_left
          · simp only [Act.put, List.setIfInBounds_toArray, List.set_cons_zero, List.set_cons_succ, i64_w, i32_w]
            rfl
          refine one_ (i := 7) (N := (some 125)) #[true, true, true, true, true, true, true, true, false, false, false, false, false] rfl rfl (by kernel_rfl) (by decide) (fun K hK => ?_)
          refine call_ (143) #[.pointer (some ⟨gw, 0, none⟩), .string (lst (l.drop la))] (by rfl) rfl (by first | (go_simp; done) | (go_simp; rfl)) ?_
          refine (write_calls w0 w4 base gw v xs (lst (l.drop la)) HBU4.out HB4.out HBS4.out (by have := HX.out; have := HS.out; have := HI.out; show xs.length + (l.drop la).length ≤ _; simp only [List.length_drop]; omega)).mono ?_
          rintro e w5 ⟨rfl, v5, hbu, hb, hsz, hsf⟩
          refine ⟨_, rfl, ?_⟩
          have HBU5 := Aside0.mk hbu
          have HB5 := Aside0.mk hb
          have HBS5 := Aside0.mk (Nat.le_trans HBS4.out hsz)
          have HSF5 := Aside0.mk (HSF4.out.then_ hsf)
          clear hbu hb hsz hsf
          refine hK.out _ _ trivial (fun hHeld => ?_)
          clear hK K
          refine norm_ (a' := ?_) ?_ ?_
          rotate_left
          · show Act.put _ (some 125) _ = _
            simp only [Act.put, List.setIfInBounds_toArray, List.set_cons_zero, List.set_cons_succ, i64_w, i32_w]
            rfl
          refine pure_ (i := 8) (N := (some 117)) (v := ?_) (a' := ?_) #[true, true, true, true, true, true, true, true, true, false, false, false, false] rfl rfl (by kernel_rfl) (fun _ _ _ h => h) (Or.inl ⟨by rfl, ?_⟩) ?_ ?_
          rotate_left
          · intro w'
            go_simp
            with_reducible rfl
          rotate_left
          · simp only [Act.put, List.setIfInBounds_toArray, List.set_cons_zero, List.set_cons_succ, i64_w, i32_w]
            rfl
          refine pure_ (i := 9) (N := (some 126)) (v := ?_) (a' := ?_) #[true, true, true, true, true, true, true, true, true, true, false, false, false] rfl rfl (by kernel_rfl) (fun _ _ _ h => h) (Or.inl ⟨by rfl, ?_⟩) ?_ ?_
          rotate_left
          · intro w'
            go_simp
            with_reducible rfl
          rotate_left
          · simp only [Act.put, List.setIfInBounds_toArray, List.set_cons_zero, List.set_cons_succ, i64_w, i32_w]
            rfl
          refine pure_ (i := 10) (N := (some 127)) (v := ?_) (a' := ?_) #[true, true, true, true, true, true, true, true, true, true, true, false, false] rfl rfl (by kernel_rfl) (fun _ _ _ h => h) (Or.inl ⟨by rfl, ?_⟩) ?_ ?_
          rotate_left
          · intro w'
            go_simp
            with_reducible rfl
          rotate_left
          · simp only [Act.put, List.setIfInBounds_toArray, List.set_cons_zero, List.set_cons_succ, i64_w, i32_w]
            rfl
          refine pure_ (i := 11) (N := (some 10)) (v := ?_) (a' := ?_) #[true, true, true, true, true, true, true, true, true, true, true, true, false] rfl rfl (by kernel_rfl) (fun _ _ _ h => h) (Or.inl ⟨by rfl, ?_⟩) ?_ ?_
          rotate_left
          · intro w'
            go_simp
            with_reducible rfl
          rotate_left
          · simp only [Act.put, List.setIfInBounds_toArray, List.set_cons_zero, List.set_cons_succ, i64_w, i32_w]
            rfl
          refine pure_ (i := 12) (N := (some 7)) (v := ?_) (a' := ?_) #[true, true, true, true, true, true, true, true, true, true, true, true, true] rfl rfl (by kernel_rfl) (fun _ _ _ h => h) (Or.inl ⟨by rfl, ?_⟩) ?_ ?_
          rotate_left
          · intro w'
            go_simp
            with_reducible rfl
          rotate_left
          · simp only [Act.put, List.setIfInBounds_toArray, List.set_cons_zero, List.set_cons_succ, i64_w, i32_w]
            rfl
          refine done_ (by kernel_rfl) ?_
-- END23
          go_wp2_with (fail)
          go_ret2
          exact ⟨⟨_, rfl⟩, v5, by rw [← HF.out]; exact HBU5.out, HB5.out, HSF5.out⟩
end Go.Proofs.YtjojmfhgfeflnaaGreatDoor.Trie
end
section
/- (*strings.genericReplacer).Replace, (*strings.Replacer).Replace, walked. -/
namespace Go.Proofs.YtjojmfhgfeflnaaGreatDoor.Trie
open Go Go.RowKit Go.Proofs.YtjojmfhgfeflnaaGreatDoorV.PrintWords Go.Proofs.YtjojmfhgfeflnaaGreatDoorV.PrintLast Go.Proofs.YtjojmfhgfeflnaaGreatDoorV.PrintMore Go.Proofs.YtjojmfhgfeflnaaGreatDoor.Once
set_option linter.unusedVariables false
set_option linter.unusedSimpArgs false

theorem buf_string {W : World} {base gw : Nat} {v : Value} {l : List UInt8} (h : Buf W base gw v (B l)) : (convert 205 9 v).run Tryz.prog W = .ok (Value.string (lst l)) W := by
  have hR := Kd.R_of_own (enc := Value.int .u8) (h1 := fun _ => rfl) (ok := fun _ => True) h.2.2 (fun _ _ => trivial)
  obtain ⟨A, c, rfl⟩ := own_slice h.2.2
  obtain ⟨_, _, hC⟩ := Kd.R_reads' hR
  rw [B_length]
  cases A with
  | none =>
    have hl : l = [] := by
      cases l with
      | nil => rfl
      | cons d r =>
        obtain ⟨ad, e, _⟩ := Kd.at_int (k := .u8) hC 0 (by omega) (by simp [B])
        cases e
    subst hl
    exact Lib.run_convert_nil_bytes W 205 9 5 c Tryz.underlying205 Tryz.underlying5 Tryz.underlying9
  | some ad =>
    refine (run_convert_bytes_back W 205 9 5 ad c l Tryz.underlying205 Tryz.underlying5 Tryz.underlying9 (fun j hj => ?_)).trans ?_
    · obtain ⟨ad', e, hc⟩ := Kd.at_int (k := .u8) hC (j : Int) (by omega) (by rw [B_length]; omega)
      cases e
      rw [Int.toNat_natCast] at hc
      rw [hc]
      congr 2
      unfold rd B
      rw [Int.toNat_natCast, List.getD_eq_getElem?_getD, List.getElem?_map, List.getElem?_eq_getElem hj]
      rfl
    · rfl
theorem make_buf (w : World) (n : Nat) (h : n ≤ 1048576) : ∃ w', (Instr.makeSlice 205 (.int .i64 0) (.int .i64 (n : Int))).run Tryz.prog w = .ok (Value.slice (some ⟨w.heap.size, 0, none⟩) 0 n) w' ∧ w'.ownsRow w.heap.size 5 1 (.slice (some ⟨w.heap.size, 0, none⟩) 0 n) 0 [] ∧ w.grownBy w' none := by
  have hi : (Tryz.prog.info? 5).map (fun i => (i.zero, i.size, i.bytes)) = some (some (.int .u8 0), 1, 1) := by kernel_rfl
  obtain ⟨i0, h1, h2, h3, h4⟩ := info_parts hi
  exact run_makeSlice_owned (P := Tryz.prog) w w.heap.size 205 5 i0 (.int .u8 0) 1 Tryz.underlying205 h1 h2 h3 .i64 .i64 n (by omega) (by rw [h4]; omega) (by simp only [maxLen]; omega) (Nat.le_refl _)
set_option maxRecDepth 100000 in
set_option maxHeartbeats 8000000 in
theorem replace_calls (w : World) (base gr tn np : Nat) (L : List ByteArray) (ps : Ps) (l : List UInt8) (G : Gen w L np tn ps base gr) (PA : ∀ M, M = (numM (mkA L np) (tn : Int) 256).1 → Pairs L M tn np ps) (P : ∀ M, M = (numM (mkA L np) (tn : Int) 256).1 → Places M tn)
    (htl : tn ≤ 256) (h2 : L.length = 2 * np) (hs : l.length ≤ 1048576) (hv : ∀ p, p ∈ ps → p.2.size ≤ 1000) :
    Calls Tryz.prog 122 #[.pointer (some ⟨gr, 0, none⟩), .string (lst l)] w fun e w' => e = .returned (.string (lst (esc ps (l.length + 1) l))) ∧ Below w.heap.size w w' := by
  obtain ⟨gt, tv, M, _, _, eM, hr, ht, hl, htp⟩ := G
  have HR := Aside0.mk hr
  have HT := Aside0.mk ht
  have HL := Aside0.mk hl
  have HTP := Aside0.mk htp
  have HPA := Aside0.mk (PA M eM)
  have PP := Aside0.mk (P M eM)
  have HTL := Aside0.mk htl
  have H2 := Aside0.mk h2
  have HS := Aside0.mk hs
  have HV := Aside0.mk hv
  have hlen : (lst l).size = l.length := rfl
  clear hr ht hl htp PA P htl h2 hs hv eM
  go_enter Tryz.func122, Tryz.ntmps122
  go_wp2_with (first
    | ((with_reducible refine gate_dst (N := 8) rfl ?_); obtain ⟨w1, hm1, hm2, hm3⟩ := make_buf w l.length HS.out; refine Kd.event_run (v := .slice (some ⟨w.heap.size, 0, none⟩) 0 l.length) (w1 := w1) rfl ?hs8 ?_; (case hs8 => show (Instr.makeSlice 205 (.int .i64 0) (.int .i64 (l.length : Int)) >>= fun a => pure (Next.value a)).run Tryz.prog w = _; rw [Sem.run_bind, hm1]; rfl); have HO1 := Aside0.mk (show w1.ownsRow w.heap.size 5 1 (.slice (some ⟨w.heap.size, 0, none⟩) ([] : List Int).length l.length) ([] : List Int).length (nums .u8 []) from hm2); have HB1 := Aside0.mk ((Below.refl w.heap.size w).grown hm3 (Nat.le_refl _) (fun k hk => by cases hk)); have SF1 := Aside0.mk (show Safe w w1 from Safe.grown hm3 (fun k hk => by cases hk)); obtain ⟨v1, ev1⟩ : ∃ v1, v1 = Value.slice (some ⟨w.heap.size, 0, none⟩) 0 l.length := ⟨_, rfl⟩; have EV := Aside0.mk ev1; have HO2 := Aside0.mk (show w1.ownsRow w.heap.size 5 1 v1 ([] : List Int).length (nums .u8 []) from by rw [ev1]; exact HO1.out); clear hm1 hm2 hm3 ev1 HO1)
    | ((with_reducible refine gate_dst (N := 5) rfl ?_); refine box_event ?hg (N := 5) ?hd (cs := #[nilS]) (t := 205) ?hr ?_; (case hd => rfl); (case hg => rfl); (case hr => first | (go_simp; done) | (go_simp; rfl)); intro gw hgw w2 hbox hbel; have GW := Aside0.mk (show w.heap.size ≤ gw from by rw [hgw]; exact HB1.out.size); have HX2 := Aside0.mk hbox; have HB2 := Aside0.mk (below_step HB1.out hbel); have HO3 := Aside0.mk (own_move HO2.out (fun k hk => hbel.block k (by obtain ⟨cells, hc⟩ := own_typed HO2.out k hk; exact blk_lt hc))); have SF2 := Aside0.mk (SF1.out.then_ (Safe.below hbel)); have k0 : w2.cell? ⟨gw, 0, none⟩ = some nilS := (blk_cell HX2.out 0).trans rfl; have f0 := blk_frozen HX2.out 0; clear hgw hbox hbel HB1 HO2 SF1)
    | ((with_reducible refine gate_store (t := 205) (p := 5) rfl ?_); refine store_event (t := 205) (p := 5) (v := ?vo1) (w1 := w2.setCell ⟨gw, 0, none⟩ v1) ?hg ?ho ?hn ?hr ?_; (case ho => rfl); (case hg => rfl); (case hn => rfl); (case hr => rw [EV.out]; first | (go_simp; done) | (go_simp; rfl)); intro w3 hw3; have HX3 := Aside0.mk (show w3.heap[gw]? = some (.cells #[v1] 205 (0, 0)) from by rw [hw3]; exact blk_put HX2.out 0 _ rfl); have HB3 := Aside0.mk (show Below w.heap.size w w3 from by rw [hw3]; exact below_set HB2.out GW.out); have HBU := Aside0.mk (show Buf w3 w.heap.size gw v1 [] from ⟨GW.out, HX3.out, by rw [hw3]; exact own_move HO3.out (fun k hk => Below.heap_setCell w2 ⟨gw, 0, none⟩ v1 k (fun e => by obtain ⟨cells, hc⟩ := own_typed HO3.out k hk; exact blk_ne HX2.out hc (by decide) e.symm))⟩); have SF3 := Aside0.mk (show Safe w w3 from by rw [hw3]; exact SF2.out.then_ (Safe.set HX2.out _ _)); clear hw3 k0 f0 HX2 HX3 HB2 HO3 SF2)
    | (go_at_call 123; refine (writeString_calls w w3 w.heap.size gr gt tn gw M tv L.length np ps L l v1 (SF3.out _ _ _ (.inl rfl) HR.out) (SF3.out _ _ _ (.inr (.inl rfl)) HT.out) HL.out (HTP.out.safe SF3.out) HPA.out PP.out HTL.out (by have := H2.out; omega) HBU.out HB3.out HB3.out.size HS.out HV.out).mono ?_; rintro e w4 ⟨⟨n, rfl⟩, v4, hbu, hb, hsf⟩; have HBU4 := Aside0.mk hbu; have HB4 := Aside0.mk hb; clear hbu hb hsf HBU HB3 SF3; have k0 : w4.cell? ⟨gw, 0, none⟩ = some v4 := (blk_cell HBU4.out.2.1 0).trans rfl)
    | ((with_reducible refine gate_dst (N := 14) rfl ?_); refine Kd.event_run (v := .string (lst (esc ps (l.length + 1) l))) (w1 := w4) rfl ?hs14 ?_; (case hs14 => show (convert 205 9 v4 >>= fun a => pure (Next.value a)).run Tryz.prog w4 = _; rw [Sem.run_bind, buf_string HBU4.out]; rfl)))
  go_ret
  exact ⟨rfl, HB4.out⟩
end Go.Proofs.YtjojmfhgfeflnaaGreatDoor.Trie
end
section
/- (*strings.Replacer).Replace, and impl's two escapes, walked. -/
namespace Go.Proofs.YtjojmfhgfeflnaaGreatDoor.Trie
open Go Go.RowKit Go.Proofs.YtjojmfhgfeflnaaGreatDoorV.PrintWords Go.Proofs.YtjojmfhgfeflnaaGreatDoorV.PrintLast Go.Proofs.YtjojmfhgfeflnaaGreatDoorV.PrintMore Go.Proofs.YtjojmfhgfeflnaaGreatDoor.Once
set_option linter.unusedVariables false
set_option linter.unusedSimpArgs false

theorem apart_once {W : World} {b n n' c : Nat} {d m s : Int} {A A' : Option Addr} {L : List ByteArray} (h : W.heap[b]? = some (.cells (onceC d m s .nilIface (.slice A n c)) 117 (0, 0))) (hC : Kd.string.C W A' n' L) : ∀ ad, A' = some ad → 0 < n' → ad.block ≠ b := by
  rintro ⟨bl, off, sp⟩ e hn eb
  obtain ⟨ad', e', hc⟩ := Kd.at_string hC 0 (by omega) (by omega)
  obtain rfl : (⟨bl, off, sp⟩ : Addr) = ad' := Option.some.inj (e.symm.trans e')
  have h0 : (⟨bl, off, sp⟩ : Addr).add (0 : Int).toNat = ⟨bl, off, sp⟩ := by simp [Addr.add]
  rw [h0] at hc
  obtain rfl : bl = b := eb
  cases sp with
  | some x => simp [World.cell?, h] at hc
  | none =>
    rw [blk_cell h off] at hc
    match off, hc with
    | 0, hc => cases hc
    | 1, hc => cases hc
    | 2, hc => cases hc
    | 3, hc => cases hc
    | 4, hc => cases hc
    | k + 5, hc => simp [onceC] at hc
set_option maxRecDepth 100000 in
set_option maxHeartbeats 8000000 in
theorem replacer_calls (w : World) (b : Nat) (A : Option Addr) (c np tn q0 : Nat) (L : List ByteArray) (ps : Ps) (l : List UInt8) (hb : w.heap[b]? = some (.cells (onceC 0 0 0 .nilIface (.slice A L.length c)) 117 (0, 0))) (hr : Kd.string.C w A L.length L) (hc : L.length ≤ c)
    (F : Fit L np tn q0 ps) (P : ∀ M, M = (numM (mkA L np) (tn : Int) 256).1 → Places M tn) (hs : l.length ≤ 1048576) (hv : ∀ p, p ∈ ps → p.2.size ≤ 1000) (w0 : World) (base : Nat) (hB : Below base w0 w) (hbb : base ≤ b) (hbs : base ≤ w.heap.size) :
    Calls Tryz.prog 51 #[.pointer (some ⟨b, 0, none⟩), .string (lst l)] w fun e w' => e = .returned (.string (lst (esc ps (l.length + 1) l))) ∧ Below base w0 w' := by
  have HB := Aside0.mk hb
  have HR := Aside0.mk hr
  have HC := Aside0.mk hc
  have FF := Aside0.mk F
  have PP := Aside0.mk P
  have HS := Aside0.mk hs
  have HV := Aside0.mk hv
  have HBE := Aside0.mk hB
  have HBB := Aside0.mk hbb
  have HBS := Aside0.mk hbs
  have HK := Aside0.mk (show KeepBut w (w.setCell ⟨b, 1, none⟩ (.int .i32 1)) b none from ⟨by simp [World.setCell], fun i hi hg _ => Below.heap_setCell w _ _ i hg⟩)
  have HR1 := Aside0.mk (show Kd.string.C (w.setCell ⟨b, 1, none⟩ (.int .i32 1)) A L.length L from Kd.C_keep ByteArray.empty hr HK.out (apart_once hb hr))
  have HB1 := Aside0.mk (show (w.setCell ⟨b, 1, none⟩ (.int .i32 1)).heap[b]? = some (.cells (onceC 0 1 0 .nilIface (.slice A L.length c)) 117 (0, 0)) from blk_put hb 1 _ rfl)
  clear hb hr hc F P hs hv hB hbb hbs
  go_enter Tryz.func51, Tryz.ntmps51
  go_wp2_with (first
    | (go_at_call 56; refine (do_calls b 0 .nilIface (.slice A L.length c) w HB.out (Made (w.setCell ⟨b, 1, none⟩ (.int .i32 1)) b 0 L np tn ps) (fun w2 h => ⟨_, _, h.choose_spec.1⟩) (buildOnce_calls _ b A c 0 .nilIface L np tn q0 ps HB1.out HR1.out HC.out FF.out)).mono ?_; rintro e w3 ⟨rfl, w2, ⟨gr, h1, h2, h3⟩, hw3⟩; have HB2 := Aside0.mk h1; have K2 := Aside0.mk h2; have HG2 := Aside0.mk h3; have HB3 := Aside0.mk (show w3.heap[b]? = some (.cells (onceC 1 0 0 (.iface 134 (.pointer (some ⟨gr, 0, none⟩))) nilS) 117 (0, 0)) from by rw [hw3]; exact blk_put (blk_put (blk_drew h1) 0 _ rfl) 1 _ rfl); have HG3 := Aside0.mk (show Gen w3 L np tn ps (w.setCell ⟨b, 1, none⟩ (.int .i32 1)).heap.size gr from by rw [hw3]; exact ((show Gen w2.drew L np tn ps _ gr from h3).set44 (blk_drew h1) 0 _).set44 (blk_put (blk_drew h1) 0 _ rfl) 1 _); have HBE3 := Aside0.mk (show Below base w0 w3 from by rw [hw3]; exact ((Chg.base (HBE.out.setCell (p := ⟨b, 1, none⟩) HBB.out _) h2 (by simpa [World.setCell] using HBS.out) (fun k hk => by rw [hk]; exact HBB.out)).drew.setCell (p := ⟨b, 0, none⟩) HBB.out _).setCell (p := ⟨b, 1, none⟩) HBB.out _); have HBS3 := Aside0.mk (show base ≤ w3.heap.size from by rw [hw3]; have := h2.size; have := HBS.out; simp only [World.setCell] at *; simpa [World.setCell] using Nat.le_trans HBS.out (by simpa [World.setCell] using h2.size)); clear h1 h2 h3 hw3; have k3 : w3.cell? ⟨b, 3, none⟩ = some (.iface 134 (.pointer (some ⟨gr, 0, none⟩))) := (blk_cell HB3.out 3).trans rfl)
    | ((with_reducible refine gate_dst (N := 16) rfl ?_); refine goesR_ (some 16) rfl rfl 122 #[.pointer (some ⟨gr, 0, none⟩), .string (lst l)] ?hrun ?_; (case hrun => first | (go_simp; done) | (go_simp; rfl)); refine (replace_calls w3 _ gr tn np L ps l HG3.out FF.out.pairs PP.out FF.out.tl FF.out.two HS.out HV.out).mono ?_; rintro e w4 ⟨rfl, hb4⟩; refine ⟨_, rfl, ?_⟩; have HB4 := Aside0.mk (below_then HBE3.out HBS3.out hb4); clear hb4))
  go_ret
  exact ⟨rfl, HB4.out⟩
end Go.Proofs.YtjojmfhgfeflnaaGreatDoor.Trie
end
section
/- The two lists of pairs: what the replacers' tables are. impl's two escapes, walked. -/
namespace Go.Proofs.YtjojmfhgfeflnaaGreatDoor.Trie
open Go Go.RowKit Go.Proofs.YtjojmfhgfeflnaaGreatDoorV.PrintWords Go.Proofs.YtjojmfhgfeflnaaGreatDoorV.PrintLast Go.Proofs.YtjojmfhgfeflnaaGreatDoorV.PrintMore Go.Proofs.YtjojmfhgfeflnaaGreatDoor.Once
set_option linter.unusedVariables false
set_option linter.unusedSimpArgs false

def lT : List ByteArray := [⟨#[38]⟩, ⟨#[38, 97, 109, 112, 59]⟩, ⟨#[60]⟩, ⟨#[38, 108, 116, 59]⟩, ⟨#[62]⟩, ⟨#[38, 103, 116, 59]⟩, ⟨#[194, 160]⟩, ⟨#[38, 110, 98, 115, 112, 59]⟩]
def pT : Ps := [(some 38, ⟨#[38, 97, 109, 112, 59]⟩), (some 60, ⟨#[38, 108, 116, 59]⟩), (some 62, ⟨#[38, 103, 116, 59]⟩), (none, ⟨#[38, 110, 98, 115, 112, 59]⟩)]
def placeT (c : Nat) : Int := if c = 38 then 0 else if c = 60 then 1 else if c = 62 then 2 else if c = 160 then 3 else if c = 194 then 4 else 5
theorem mapT : (numM (mkA lT 4) ((5 : Nat) : Int) 256).1 = (List.range 256).map placeT := by decide +kernel
theorem sumTT : sumT (mkA lT 4) 256 = ((5 : Nat) : Int) := by decide +kernel
theorem map_at {place : Nat → Int} {c : Nat} (h : c < 256) : ((List.range 256).map place)[c]? = some (place c) := by
  rw [List.getElem?_map, List.getElem?_range h]
  rfl
set_option maxRecDepth 100000 in
theorem placesT : ∀ M, M = (numM (mkA lT 4) ((5 : Nat) : Int) 256).1 → Places M 5 := by
  intro M hM
  rw [hM, mapT]
  constructor
  · intro c hc
    rw [map_at hc]
    unfold placeT
    repeat' split
    · exact ⟨0, by omega, rfl⟩
    · exact ⟨1, by omega, rfl⟩
    · exact ⟨2, by omega, rfl⟩
    · exact ⟨3, by omega, rfl⟩
    · exact ⟨4, by omega, rfl⟩
    · exact ⟨5, by omega, rfl⟩
  · intro c c' m hm h1 h2
    have b1 : c < 256 := by have := (List.getElem?_eq_some_iff.1 h1).1; simpa using this
    have b2 : c' < 256 := by have := (List.getElem?_eq_some_iff.1 h2).1; simpa using this
    rw [map_at b1] at h1
    rw [map_at b2] at h2
    injection h1 with h1
    injection h2 with h2
    unfold placeT at h1 h2
    repeat' split at h1
    all_goals repeat' split at h2
    all_goals omega
set_option maxRecDepth 100000 in
theorem pairsT : ∀ M, M = (numM (mkA lT 4) ((5 : Nat) : Int) 256).1 → Pairs lT M 5 4 pT := by
  intro M hM
  rw [hM, mapT]
  refine ⟨rfl, rfl, by omega, ?_, ?_, ?_, ?_⟩
  · intro j p hj
    match j, hj with
    | 0, hj => cases hj; rfl
    | 1, hj => cases hj; rfl
    | 2, hj => cases hj; rfl
    | 3, hj => cases hj; rfl
    | k + 4, hj => simp [pT] at hj
  · intro j p hj
    match j, hj with
    | 0, hj => cases hj; rfl
    | 1, hj => cases hj; rfl
    | 2, hj => cases hj; rfl
    | 3, hj => cases hj; rfl
    | k + 4, hj => simp [pT] at hj
  · intro j p hj
    match j, hj with
    | 0, hj => cases hj; exact ⟨0, by omega, map_at (c := 38) (by omega)⟩
    | 1, hj => cases hj; exact ⟨1, by omega, map_at (c := 60) (by omega)⟩
    | 2, hj => cases hj; exact ⟨2, by omega, map_at (c := 62) (by omega)⟩
    | 3, hj => cases hj; exact ⟨4, by omega, map_at (c := 194) (by omega)⟩
    | k + 4, hj => simp [pT] at hj
  · have key : ∀ j p, pT[j]? = some p → ((List.range 256).map placeT)[lead p.1]? = some (([0, 1, 2, 4] : List Int).getD j 9) ∧ j < 4 := by
      intro j p hj
      match j, hj with
      | 0, hj => cases hj; exact ⟨map_at (c := 38) (by omega), by omega⟩
      | 1, hj => cases hj; exact ⟨map_at (c := 60) (by omega), by omega⟩
      | 2, hj => cases hj; exact ⟨map_at (c := 62) (by omega), by omega⟩
      | 3, hj => cases hj; exact ⟨map_at (c := 194) (by omega), by omega⟩
      | k + 4, hj => simp [pT] at hj
    intro j j' p p' h1 h2 e
    obtain ⟨e1, l1⟩ := key j p h1
    obtain ⟨e2, l2⟩ := key j' p' h2
    rw [e1, e2] at e
    match j, l1, j', l2, e with
    | 0, _, 0, _, _ => rfl
    | 1, _, 1, _, _ => rfl
    | 2, _, 2, _, _ => rfl
    | 3, _, 3, _, _ => rfl
    | 0, _, 1, _, e | 0, _, 2, _, e | 0, _, 3, _, e | 1, _, 0, _, e | 1, _, 2, _, e | 1, _, 3, _, e | 2, _, 0, _, e | 2, _, 1, _, e | 2, _, 3, _, e | 3, _, 0, _, e | 3, _, 1, _, e | 3, _, 2, _, e => simp at e
theorem fitT : Fit lT 4 5 3 pT where
  two := rfl
  small := by show 8 ≤ 1000; omega
  more := by show 2 < 8; omega
  keys := fun i hi => by
    have hi : i < 8 := hi
    match i, hi with
    | 0, _ | 1, _ | 2, _ | 3, _ | 4, _ | 5, _ | 6, _ | 7, _ => decide
  has := by omega
  one := fun q hq => by
    match q, hq with
    | 0, _ | 1, _ | 2, _ => rfl
  nb := by decide
  ts := sumTT
  tl := by omega
  pairs := pairsT
theorem smallT : ∀ p, p ∈ pT → p.2.size ≤ 1000 := by decide
set_option maxRecDepth 100000 in
set_option maxHeartbeats 8000000 in
theorem escapeText_calls (w : World) (l : List UInt8) (hs : l.length ≤ 1048576) :
    Calls Tryz.prog 41 #[.string (lst l)] w fun e w' => e = .returned (.string (lst (esc pT (l.length + 1) l))) ∧ Below w.heap.size w w' := by
  have HS := Aside0.mk hs
  clear hs
  go_enter Tryz.func41, Tryz.ntmps41
  go_wp2_with (first
    | ((with_reducible refine gate_dst (N := 3) rfl ?_); refine Kd.R_lit Kd.string (w0 := w) w.heap.size 9 ?hg (N := 3) ?hd (xs := lT) (inner := lT.map Value.string) (ok := fun _ => True) (okp := fun _ => True) ?hr ?hp (fun _ hk => hk) trivial (Below.refl _ _) (Nat.le_refl _) (by show 8 ≤ 9223372036854775807; omega) ?_; (case hd => rfl); (case hg => rfl); (case hr => first | (go_simp; done) | (go_simp; rfl) | (go_simp; exact ⟨rfl, rfl⟩)); (case hp => exact Kd.reps_scalar _); intro v3 w3 ho3 hb3 hg3 hat3; obtain ⟨A3, c3, ev3⟩ := Kd.R_slice ho3; subst ev3; obtain ⟨_, hc3, hC3⟩ := Kd.R_reads' ho3; have HC3 := Aside0.mk hC3; have HL3 := Aside0.mk hc3; have HB3 := Aside0.mk hb3; clear ho3 hb3 hg3 hat3 hc3 hC3)
    | (go_at_call 50; refine (newReplacer_calls w3 A3 c3 lT 4 HC3.out HL3.out fitT.two fitT.small).mono ?_; rintro e w4 ⟨b, A', c', rfl, h1, h2, h3, h4, h5⟩; have GB := Aside0.mk (Nat.le_trans HB3.out.size h1); have HB4 := Aside0.mk (below_step HB3.out h2); have HX4 := Aside0.mk h3; have HC4 := Aside0.mk h4; have HL4 := Aside0.mk h5; clear h1 h2 h3 h4 h5 HC3 HL3 HB3)
    | (go_at_call 51; refine (replacer_calls w4 b A' c' 4 5 3 lT pT l HX4.out HC4.out HL4.out fitT placesT HS.out smallT w w.heap.size HB4.out GB.out HB4.out.size).mono ?_; rintro e w5 ⟨rfl, hb5⟩; have HB5 := Aside0.mk hb5; clear hb5))
  go_ret
  exact ⟨rfl, HB5.out⟩
end Go.Proofs.YtjojmfhgfeflnaaGreatDoor.Trie
end
section
/- The two lists of pairs: what the replacers' tables are. impl's two escapes, walked. -/
namespace Go.Proofs.YtjojmfhgfeflnaaGreatDoor.Trie
open Go Go.RowKit Go.Proofs.YtjojmfhgfeflnaaGreatDoorV.PrintWords Go.Proofs.YtjojmfhgfeflnaaGreatDoorV.PrintLast Go.Proofs.YtjojmfhgfeflnaaGreatDoorV.PrintMore Go.Proofs.YtjojmfhgfeflnaaGreatDoor.Once
set_option linter.unusedVariables false
set_option linter.unusedSimpArgs false

def lV : List ByteArray := [⟨#[38]⟩, ⟨#[38, 97, 109, 112, 59]⟩, ⟨#[194, 160]⟩, ⟨#[38, 110, 98, 115, 112, 59]⟩, ⟨#[34]⟩, ⟨#[38, 113, 117, 111, 116, 59]⟩]
def pV : Ps := [(some 38, ⟨#[38, 97, 109, 112, 59]⟩), (none, ⟨#[38, 110, 98, 115, 112, 59]⟩), (some 34, ⟨#[38, 113, 117, 111, 116, 59]⟩)]
def placeV (c : Nat) : Int := if c = 34 then 0 else if c = 38 then 1 else if c = 160 then 2 else if c = 194 then 3 else 4
theorem mapV : (numM (mkA lV 3) ((4 : Nat) : Int) 256).1 = (List.range 256).map placeV := by decide +kernel
theorem sumTV : sumT (mkA lV 3) 256 = ((4 : Nat) : Int) := by decide +kernel
theorem placesV : ∀ M, M = (numM (mkA lV 3) ((4 : Nat) : Int) 256).1 → Places M 4 := by
  intro M hM
  rw [hM, mapV]
  constructor
  · intro c hc
    rw [map_at hc]
    unfold placeV
    repeat' split
    · exact ⟨0, by omega, rfl⟩
    · exact ⟨1, by omega, rfl⟩
    · exact ⟨2, by omega, rfl⟩
    · exact ⟨3, by omega, rfl⟩
    · exact ⟨4, by omega, rfl⟩
  · intro c c' m hm h1 h2
    have b1 : c < 256 := by have := (List.getElem?_eq_some_iff.1 h1).1; simpa using this
    have b2 : c' < 256 := by have := (List.getElem?_eq_some_iff.1 h2).1; simpa using this
    rw [map_at b1] at h1
    rw [map_at b2] at h2
    injection h1 with h1
    injection h2 with h2
    unfold placeV at h1 h2
    repeat' split at h1
    all_goals repeat' split at h2
    all_goals omega
set_option maxRecDepth 100000 in
theorem pairsV : ∀ M, M = (numM (mkA lV 3) ((4 : Nat) : Int) 256).1 → Pairs lV M 4 3 pV := by
  intro M hM
  rw [hM, mapV]
  refine ⟨rfl, rfl, by omega, ?_, ?_, ?_, ?_⟩
  · intro j p hj
    match j, hj with
    | 0, hj => cases hj; rfl
    | 1, hj => cases hj; rfl
    | 2, hj => cases hj; rfl
    | k + 3, hj => simp [pV] at hj
  · intro j p hj
    match j, hj with
    | 0, hj => cases hj; rfl
    | 1, hj => cases hj; rfl
    | 2, hj => cases hj; rfl
    | k + 3, hj => simp [pV] at hj
  · intro j p hj
    match j, hj with
    | 0, hj => cases hj; exact ⟨1, by omega, map_at (c := 38) (by omega)⟩
    | 1, hj => cases hj; exact ⟨3, by omega, map_at (c := 194) (by omega)⟩
    | 2, hj => cases hj; exact ⟨0, by omega, map_at (c := 34) (by omega)⟩
    | k + 3, hj => simp [pV] at hj
  · have key : ∀ j p, pV[j]? = some p → ((List.range 256).map placeV)[lead p.1]? = some (([1, 3, 0] : List Int).getD j 9) ∧ j < 3 := by
      intro j p hj
      match j, hj with
      | 0, hj => cases hj; exact ⟨map_at (c := 38) (by omega), by omega⟩
      | 1, hj => cases hj; exact ⟨map_at (c := 194) (by omega), by omega⟩
      | 2, hj => cases hj; exact ⟨map_at (c := 34) (by omega), by omega⟩
      | k + 3, hj => simp [pV] at hj
    intro j j' p p' h1 h2 e
    obtain ⟨e1, l1⟩ := key j p h1
    obtain ⟨e2, l2⟩ := key j' p' h2
    rw [e1, e2] at e
    match j, l1, j', l2, e with
    | 0, _, 0, _, _ => rfl
    | 1, _, 1, _, _ => rfl
    | 2, _, 2, _, _ => rfl
    | 0, _, 1, _, e | 0, _, 2, _, e | 1, _, 0, _, e | 1, _, 2, _, e | 2, _, 0, _, e | 2, _, 1, _, e => simp at e
theorem fitV : Fit lV 3 4 1 pV where
  two := rfl
  small := by show 6 ≤ 1000; omega
  more := by show 2 < 6; omega
  keys := fun i hi => by
    have hi : i < 6 := hi
    match i, hi with
    | 0, _ | 1, _ | 2, _ | 3, _ | 4, _ | 5, _ => decide
  has := by omega
  one := fun q hq => by
    match q, hq with
    | 0, _ => rfl
  nb := by decide
  ts := sumTV
  tl := by omega
  pairs := pairsV
theorem smallV : ∀ p, p ∈ pV → p.2.size ≤ 1000 := by decide
set_option maxRecDepth 100000 in
set_option maxHeartbeats 8000000 in
theorem escapeValue_calls (w : World) (l : List UInt8) (hs : l.length ≤ 1048576) :
    Calls Tryz.prog 52 #[.string (lst l)] w fun e w' => e = .returned (.string (lst (esc pV (l.length + 1) l))) ∧ Below w.heap.size w w' := by
  have HS := Aside0.mk hs
  clear hs
  go_enter Tryz.func52, Tryz.ntmps52
  go_wp2_with (first
    | ((with_reducible refine gate_dst (N := 3) rfl ?_); refine Kd.R_lit Kd.string (w0 := w) w.heap.size 9 ?hg (N := 3) ?hd (xs := lV) (inner := lV.map Value.string) (ok := fun _ => True) (okp := fun _ => True) ?hr ?hp (fun _ hk => hk) trivial (Below.refl _ _) (Nat.le_refl _) (by show 6 ≤ 9223372036854775807; omega) ?_; (case hd => rfl); (case hg => rfl); (case hr => first | (go_simp; done) | (go_simp; rfl) | (go_simp; exact ⟨rfl, rfl⟩)); (case hp => exact Kd.reps_scalar _); intro v3 w3 ho3 hb3 hg3 hat3; obtain ⟨A3, c3, ev3⟩ := Kd.R_slice ho3; subst ev3; obtain ⟨_, hc3, hC3⟩ := Kd.R_reads' ho3; have HC3 := Aside0.mk hC3; have HL3 := Aside0.mk hc3; have HB3 := Aside0.mk hb3; clear ho3 hb3 hg3 hat3 hc3 hC3)
    | (go_at_call 50; refine (newReplacer_calls w3 A3 c3 lV 3 HC3.out HL3.out fitV.two fitV.small).mono ?_; rintro e w4 ⟨b, A', c', rfl, h1, h2, h3, h4, h5⟩; have GB := Aside0.mk (Nat.le_trans HB3.out.size h1); have HB4 := Aside0.mk (below_step HB3.out h2); have HX4 := Aside0.mk h3; have HC4 := Aside0.mk h4; have HL4 := Aside0.mk h5; clear h1 h2 h3 h4 h5 HC3 HL3 HB3)
    | (go_at_call 51; refine (replacer_calls w4 b A' c' 3 4 1 lV pV l HX4.out HC4.out HL4.out fitV placesV HS.out smallV w w.heap.size HB4.out GB.out HB4.out.size).mono ?_; rintro e w5 ⟨rfl, hb5⟩; have HB5 := Aside0.mk hb5; clear hb5))
  go_ret
  exact ⟨rfl, HB5.out⟩
end Go.Proofs.YtjojmfhgfeflnaaGreatDoor.Trie
end
