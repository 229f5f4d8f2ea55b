/- (*strings.byteStringReplacer).Replace, walked. -/
import Derived.Test.YtonmeoaponeadaaGreatDoorByteD
import Derived.Lib.Bytealg
namespace Go.Proofs.YtonmeoaponeadaaGreatDoor.Repl
open Go Go.RowKit Go.Proofs.YtonmeoaponeadaaGreatDoorV.PrintWords Go.Proofs.YtonmeoaponeadaaGreatDoorV.PrintLast Go.Proofs.YtonmeoaponeadaaGreatDoorV.PrintMore Go.Proofs.YtonmeoaponeadaaGreatDoor.Once
set_option linter.unusedVariables false
set_option linter.unusedSimpArgs false

set_option maxRecDepth 100000 in
set_option maxHeartbeats 8000000 in
theorem count_calls (w : World) (s : ByteArray) (k : Nat) (hk : k < 256) :
    Calls Tryz.prog 122 #[.string s, .string (one k)] w fun e w' => e = .returned (.int .i64 (Lib.countByte s.data.toList (UInt8.ofNat k) : Nat)) ∧ w = w' := by
  have k1 : (one k).size = 1 := rfl
  have hb0 : ∀ h : 0 < (one k).size, (((one k)[0]'h).toNat : Int) = (k : Int) := fun h => by
    show ((UInt8.ofNat k).toNat : Int) = _
    rw [UInt8.toNat_ofNat']
    omega
  have hr : (callFunc 124 #[.string s, .int .u8 (k : Int)]).run Tryz.prog w = .ok (.value (.int .i64 (Lib.countByte s.data.toList (UInt8.ofNat k) : Nat))) w := by
    rw [run_callFunc_extern Tryz.func124 (by kernel_rfl) (by kernel_rfl) (by kernel_rfl) (e := Extern.BytealgCount.count) (by kernel_rfl), Lib.run_countString]
    simp only [Result.andThen, Int.toNat_natCast]
    first | done | rfl | skip
  obtain ⟨key, ek⟩ : ∃ key, key = one k := ⟨_, rfl⟩
  rw [← ek] at k1 hb0 ⊢
  have s0 : ((key.size : Int) == 0) = false := by rw [k1]; rfl
  have s00 : (key.size == 0) = false := by rw [k1]; rfl
  have s1 : ((key.size : Int) == 1) = true := by rw [k1]; rfl
  have s10 : (key.size == 1) = true := by rw [k1]; rfl
  have q0 : (0 < key.size) = True := eq_true (by omega)
  have qz : ((0 : Int) < (key.size : Int)) = True := eq_true (by omega)
  obtain ⟨ct, ec⟩ : ∃ ct : Nat, ct = Lib.countByte s.data.toList (UInt8.ofNat k) := ⟨_, rfl⟩
  rw [← ec] at hr ⊢
  clear ek k1 ec
  go_enter Tryz.func122, Tryz.ntmps122
  go_wp2_with (fail)
  go_ret
  exact ⟨rfl, rfl⟩
def sp (c : Int) : Bool := c == 10 || c == 92 || c == 34
def escI (l : List Int) : List Int := l.flatMap fun c => if sp c then [92, c] else [c]
def spn (l : List Int) : Nat := (l.filter sp).length
theorem escI_nil : escI [] = [] := rfl
theorem escI_snoc (l : List Int) (c : Int) : escI (l ++ [c]) = escI l ++ (if sp c then [92, c] else [c]) := by unfold escI; rw [List.flatMap_append]; simp
theorem spn_snoc (l : List Int) (c : Int) : spn (l ++ [c]) = spn l + (if sp c then 1 else 0) := by
  unfold spn
  rw [List.filter_append, List.length_append]
  cases h : sp c <;> simp [h]
theorem escI_length (l : List Int) : (escI l).length = l.length + spn l := by
  induction l with
  | nil => rfl
  | cons c l ih =>
    have h : escI (c :: l) = (if sp c then [92, c] else [c]) ++ escI l := rfl
    rw [h, List.length_append, ih]
    unfold spn
    cases hc : sp c <;> simp [hc] <;> omega
theorem escI_none (l : List Int) (h : spn l = 0) : escI l = l := by
  induction l with
  | nil => rfl
  | cons c l ih =>
    have he : escI (c :: l) = (if sp c then [92, c] else [c]) ++ escI l := rfl
    unfold spn at h ih
    cases hc : sp c with
    | true => rw [List.filter_cons_of_pos hc] at h; simp at h
    | false =>
      rw [List.filter_cons_of_neg (by simp [hc])] at h
      rw [he, hc, ih h]
      rfl
theorem count_cons (b : UInt8) (l : List UInt8) (c : UInt8) : Lib.countByte (b :: l) c = Lib.countByte l c + (if b = c then 1 else 0) := by
  unfold Lib.countByte
  rw [List.count_cons]
  simp
theorem counts (l : List UInt8) : Lib.countByte l (UInt8.ofNat 10) + Lib.countByte l (UInt8.ofNat 92) + Lib.countByte l (UInt8.ofNat 34) = spn (l.map fun b => (b.toNat : Int)) := by
  induction l with
  | nil => rfl
  | cons b l ih =>
    rw [count_cons, count_cons, count_cons, List.map_cons]
    have hs : spn ((b.toNat : Int) :: l.map fun b => (b.toNat : Int)) = spn (l.map fun b => (b.toNat : Int)) + (if sp (b.toNat : Int) then 1 else 0) := by
      unfold spn
      cases h : sp (b.toNat : Int) <;> simp [h]
    rw [hs, ← ih]
    have hk : ∀ n : Nat, n < 256 → ((b = UInt8.ofNat n) ↔ ((b.toNat : Int) = (n : Int))) := fun n hn => by
      rw [← UInt8.toNat_inj, UInt8.toNat_ofNat']
      omega
    have h1 := hk 10 (by omega)
    have h2 := hk 92 (by omega)
    have h3 := hk 34 (by omega)
    have e : sp (b.toNat : Int) = (decide ((b.toNat : Int) = 10) || decide ((b.toNat : Int) = 92) || decide ((b.toNat : Int) = 34)) := by
      unfold sp
      rfl
    rw [e]
    by_cases a1 : (b.toNat : Int) = 10
    · rw [if_pos (h1.2 a1), if_neg (fun x => by have := h2.1 x; omega), if_neg (fun x => by have := h3.1 x; omega), if_pos (by simp [a1])]; omega
    · by_cases a2 : (b.toNat : Int) = 92
      · rw [if_neg (fun x => a1 (h1.1 x)), if_pos (h2.2 a2), if_neg (fun x => by have := h3.1 x; omega), if_pos (by simp [a2])]; omega
      · by_cases a3 : (b.toNat : Int) = 34
        · rw [if_neg (fun x => a1 (h1.1 x)), if_neg (fun x => a2 (h2.1 x)), if_pos (h3.2 a3), if_pos (by simp [a3])]; omega
        · rw [if_neg (fun x => a1 (h1.1 x)), if_neg (fun x => a2 (h2.1 x)), if_neg (fun x => a3 (h3.1 x)), if_neg (by simp [a1, a2, a3])]; omega
theorem byt_at {W : World} {base gr : Nat} {ps : List (Nat × Value)} {vt : Value} (h : Rep W base gr ps vt) (hp : ps.map Prod.fst = [34, 92, 10]) (c : Nat) : (sp (c : Int) = true → Two W base (valAt ps c) c) ∧ (sp (c : Int) = false → valAt ps c = nilS) := by
  obtain ⟨_, _, h2⟩ := h
  obtain ⟨p, q, t, rfl⟩ : ∃ p q t, ps = [p, q, t] := by
    have hl : ps.length = 3 := by have := congrArg List.length hp; simpa using this
    cases ps with
    | nil => simp at hl
    | cons p r => cases r with
      | nil => simp at hl
      | cons q r => cases r with
        | nil => simp at hl
        | cons t r => cases r with
          | nil => exact ⟨p, q, t, rfl⟩
          | cons u r => simp at hl
  · have h1 : p.1 = 34 ∧ q.1 = 92 ∧ t.1 = 10 := by simpa using hp
    obtain ⟨e1, e2, e3⟩ := h1
    have a1 := h2 p (by simp)
    have a2 := h2 q (by simp)
    have a3 := h2 t (by simp)
    rw [e1] at a1
    rw [e2] at a2
    rw [e3] at a3
    unfold sp
    simp only [valAt, e1, e2, e3]
    by_cases c1 : 34 = c
    · subst c1; exact ⟨fun _ => a1, fun h => by simp at h⟩
    · rw [if_neg c1]
      by_cases c2 : 92 = c
      · subst c2; exact ⟨fun _ => a2, fun h => by simp at h⟩
      · rw [if_neg c2]
        by_cases c3 : 10 = c
        · subst c3; exact ⟨fun _ => a3, fun h => by simp at h⟩
        · rw [if_neg c3]
          exact ⟨fun h => by simp at h; omega, fun _ => rfl⟩
/-- The bytes that are filled in. -/
def Fill (W : World) (gb n : Nat) (done : List Int) : Prop := ∃ cur : Array Value, W.heap[gb]? = some (.cells cur 5 (0, 0)) ∧ cur.size = n ∧ done.length ≤ n ∧ cur.toList.take done.length = nums .u8 done
theorem Fill.one {W : World} {gb n : Nat} {done : List Int} (h : Fill W gb n done) (c : Int) (hl : done.length < n) : Fill (W.setCell ⟨gb, done.length, none⟩ (.int .u8 c)) gb n (done ++ [c]) := by
  obtain ⟨cur, h1, h2, h3, h4⟩ := h
  refine ⟨cur.setIfInBounds done.length (.int .u8 c), blk_put h1 _ _ rfl, by simpa using h2, by simp; omega, ?_⟩
  rw [List.length_append, List.length_singleton, Array.toList_setIfInBounds, List.take_add_one, List.take_set_of_le (Nat.le_refl _), h4, List.getElem?_set_self (by show done.length < cur.toList.length; have e_ : cur.toList.length = cur.size := Array.length_toList; omega)]
  unfold nums
  rw [List.map_append]
  rfl
theorem Fill.cell {W : World} {gb n : Nat} {done : List Int} (h : Fill W gb n done) (hl : done.length < n) : (∃ u, W.cell? ⟨gb, done.length, none⟩ = some u) ∧ W.frozen? ⟨gb, done.length, none⟩ = false := by
  obtain ⟨cur, h1, h2, h3, h4⟩ := h
  exact ⟨⟨cur[done.length]'(by omega), (blk_cell h1 _).trans (Array.getElem?_eq_getElem (by omega))⟩, blk_frozen h1 _⟩
theorem Fill.copy {W : World} {gb n N dc c base : Nat} {v : Value} {done : List Int} (h : Fill W gb N done) (hv : Two W base v c) (hl : done.length + 2 ≤ n) (hn : n ≤ N) :
    ∃ w1, (Builtin.copy_ #[32, 32] 3 #[.slice (some ⟨gb, done.length, none⟩) (n - done.length) dc, v]).run Tryz.prog W = .ok (.int .i64 2) w1 ∧ Fill w1 gb N (done ++ [92, (c : Int)]) ∧ (∀ k, k ≠ gb → w1.heap[k]? = W.heap[k]?) ∧ w1.heap.size = W.heap.size ∧ w1.os = W.os ∧ w1.tape = W.tape ∧ w1.output = W.output := by
  obtain ⟨cur, h1, h2, h3, h4⟩ := h
  obtain ⟨g, cap, cu2, fz, rfl, hg, hc, hb, e0, e1⟩ := hv
  have hr := run_copy_row (P := Tryz.prog) W 32 32 3 5 gb done.length (n - done.length) dc ⟨g, 0, none⟩ 2 cap cur 5 [.int .u8 92, .int .u8 (c : Int)] Tryz.underlying32 (by kernel_rfl) h1 (by show 2 = min 2 (n - done.length); omega)
    (fun j v hj => by
      match j, hj with
      | 0, hj => cases hj; simp [World.cell?, Addr.add, hb, e0]
      | 1, hj => cases hj; simp [World.cell?, Addr.add, hb, e1]) (by simp; omega) (by simp [Value.oneCell'])
  refine ⟨_, hr, ⟨_, setRow_heap W gb cur _ 5 (0, 0) h1, ?_, by simp; omega, ?_⟩, fun k hk => setRow_other W gb k _ hk, setRow_size _ _ _, rfl, rfl, rfl⟩
  · simp; omega
  · rw [List.length_append, h4, List.take_append_of_le_length (by simp [nums]), List.take_of_length_le (by simp [nums])]
    simp [nums]
theorem Fill.own {W : World} {gb n N base : Nat} {done : List Int} (h : Fill W gb N done) (hn : done.length = n) (hb : base ≤ gb) (hN : n ≤ N) (hm : N ≤ maxLen) : W.ownsRow base 5 1 (.slice (some ⟨gb, 0, none⟩) n N) n (nums .u8 done) := by
  obtain ⟨cur, h1, h2, h3, h4⟩ := h
  exact ⟨by simp [nums, hn], .inr ⟨gb, N, cur, rfl, hb, h1, hN, hm, by omega, by rw [Nat.mul_one, ← hn]; exact h4⟩⟩
theorem Fill.of {W : World} {base n : Nat} {v : Value} {xs : List Int} (h : W.ownsRow base 5 1 v n (nums .u8 xs)) (hn : 0 < n) : ∃ gb N, v = .slice (some ⟨gb, 0, none⟩) n N ∧ base ≤ gb ∧ n ≤ N ∧ N ≤ maxLen ∧ Fill W gb N [] := by
  obtain ⟨_, h⟩ := h
  rcases h with ⟨_, e⟩ | ⟨g, cap, cur, e, hb, hg, h1, h2, h3, h4⟩
  · omega
  · exact ⟨g, cap, e, hb, h1, h2, cur, hg, by omega, Nat.zero_le _, rfl⟩
theorem spn_take (l : List Int) (i : Nat) : spn (l.take i) ≤ spn l := ((List.take_sublist i l).filter _).length_le
theorem wn (n : Nat) (h : n ≤ 4611686018427387904) : wrap64 (n : Int) = (n : Int) := by unfold wrap64; omega
theorem wa (a b : Nat) (h : a + b ≤ 4611686018427387904) : wrap64 ((a : Int) + (b : Int)) = ((a + b : Nat) : Int) := by rw [← Int.natCast_add]; exact wn _ h
theorem wa1 (a : Nat) (h : a + 1 ≤ 4611686018427387904) : wrap64 ((a : Int) + 1) = ((a + 1 : Nat) : Int) := wa a 1 h
theorem wa2 (a : Nat) (h : a + 2 ≤ 4611686018427387904) : wrap64 ((a : Int) + 2) = ((a + 2 : Nat) : Int) := wa a 2 h
end Go.Proofs.YtonmeoaponeadaaGreatDoor.Repl
