/- impl.isVoid, walked: strings.Fields of the words' list, and a look through them. -/
import Derived.Test.YtjojmfhgfeflnaaGreatDoorBldW
import Derived.Test.YtjojmfhgfeflnaaGreatDoorFieldsLay
import Derived.Laws.Tables
import Derived.Lib.SmallJoins
namespace Go.Proofs.YtjojmfhgfeflnaaGreatDoor.QFnExactInner
open Go Go.RowKit Go.Proofs.YtjojmfhgfeflnaaGreatDoorV.PrintWords Go.Proofs.YtjojmfhgfeflnaaGreatDoorV.PrintLast Go.Proofs.YtjojmfhgfeflnaaGreatDoorV.PrintMore Go.Proofs.YtjojmfhgfeflnaaGreatDoor.Val Go.Proofs.YtjojmfhgfeflnaaGreatDoor.Repl
set_option linter.unusedVariables false
set_option linter.unusedSimpArgs false

def STab (w : World) : Prop := Lib.TabIs Tryz.prog w "strings.asciiSpace" .u8 Lib.asciiSpaceTab
theorem STab.below {w w1 : World} (h : STab w) (hb : Below w.heap.size w w1) : STab w1 := by
  unfold STab Lib.TabIs at *
  exact _root_.Go.Joins.var_stays (g := 0) (by kernel_rfl) h hb (Nat.le_refl _)
def voidL : List ByteArray := voids.map fun l => ⟨l.toArray⟩
theorem fields_void : Lib.fields voidT.data.toList = voids := by decide +kernel
theorem fields_calls (w : World) (h : STab w) : Calls Tryz.prog 59 #[.string voidT] w fun e w' => e = .returned (.slice (some ⟨w.heap.size, 0, none⟩) 7 7) ∧ w' = w.alloc (.cells (voidL.map Value.string).toArray 9) := by
  refine (Any.strings_Fields fieldsL (by kernel_rfl) (by kernel_rfl) voidT w (by decide) (fun j b hb => ?_) h).mono ?_
  · have : ∀ x ∈ voidT.data.toList, x.toNat < 128 := by decide +kernel
    exact this b (List.mem_of_getElem? hb)
  · rintro e w' ⟨rfl, rfl⟩
    rw [fields_void]
    exact ⟨rfl, rfl⟩
theorem fields_C (w : World) : Kd.C Kd.string (w.alloc (.cells (voidL.map Value.string).toArray 9)) (some ⟨w.heap.size, 0, none⟩) 7 voidL := by
  refine Kd.C_of_reads (d := ByteArray.empty) ⟨rfl, by decide, fun _ => ⟨_, rfl, fun j hj => ?_⟩⟩
  have h := blk_cell (blk_new w (.cells (voidL.map Value.string).toArray 9)) j
  have e : (⟨w.heap.size, 0, none⟩ : Addr).add j = ⟨w.heap.size, j, none⟩ := by simp [Addr.add]; omega
  rw [e, h]
  match j, hj with
  | 0, _ | 1, _ | 2, _ | 3, _ | 4, _ | 5, _ | 6, _ => rfl
theorem contains_is (s : ByteArray) (hs : s.toList ≠ []) : slices_Contains_string_string.F voidL s = some (voidB s) := by
  have hl : (voidL.length : Int) = 7 := rfl
  have look : ∀ (d i : Nat), i + d = 7 → slices_Index_string_string.L0 voidL s (7 : Int) (i : Int) = some (if (voids.drop i).contains s.data.toList = true then ((i + (voids.drop i).findIdx (· == s.data.toList) : Nat) : Int) else -1) := by
    intro d
    induction d with
    | zero =>
      intro i hi
      obtain rfl : i = 7 := hi
      rw [slices_Index_string_string.L0_eq, if_neg (by decide)]
      rfl
    | succ d ih =>
      intro i hi
      have hi7 : i < 7 := by omega
      have e0 : voids.drop i = voids[i]'(hi7) :: voids.drop (i + 1) := List.drop_eq_getElem_cons hi7
      have e1 : rdOf ByteArray.empty voidL (i : Int) = ⟨(voids[i]'hi7).toArray⟩ := by
        match i, hi7 with
        | 0, _ | 1, _ | 2, _ | 3, _ | 4, _ | 5, _ | 6, _ => rfl
      have w : wrap64 ((i : Int) + 1) = ((i + 1 : Nat) : Int) := by rw [w64 (by omega) (by omega)]; rfl
      rw [slices_Index_string_string.L0_eq, if_pos (by omega), if_pos (by omega), if_pos (by rw [hl]; omega), e1, w]
      by_cases c : s.toList = (⟨(voids[i]'hi7).toArray⟩ : ByteArray).toList
      · have c2 : s.data.toList = voids[i]'hi7 := by rw [toList_data, toList_data] at c; exact c
        rw [if_pos c, e0, if_pos (by simp [c2])]
        simp [c2, List.findIdx_cons]
      · have c2 : ¬ s.data.toList = voids[i]'hi7 := fun e => c (by rw [toList_data, toList_data]; exact e)
        have c3 : (voids[i]'hi7 == s.data.toList) = false := beq_eq_false_iff_ne.mpr (fun e => c2 e.symm)
        have c4 : (s.data.toList == voids[i]'hi7) = false := beq_eq_false_iff_ne.mpr c2
        rw [if_neg c, ih (i + 1) (by omega), e0]
        simp only [List.contains_cons, c4, Bool.false_or, List.findIdx_cons, c3, cond_false]
        split
        · congr 1; omega
        · rfl
  rw [slices_Contains_string_string.F_eq, slices_Index_string_string.F_eq, hl]
  have h0 := look 7 0 rfl
  rw [show ((0 : Nat) : Int) = 0 from rfl] at h0
  rw [h0, Option.bind_some]
  unfold voidB
  rw [List.drop_zero]
  by_cases c : voids.contains s.data.toList = true
  · rw [if_pos c, c]
    simp
  · rw [if_neg c]
    rw [Bool.eq_false_iff.mpr c]
    rfl
theorem void_empty (s : ByteArray) (hs : s.toList = []) : voidB s = false := by
  rw [toList_data] at hs
  unfold voidB
  rw [hs]
  rfl
set_option maxHeartbeats 4000000 in
set_option maxRecDepth 100000 in
theorem oneOf_calls (w : World) (s : ByteArray) (h : STab w) : Calls Tryz.prog 53 #[.string s, .string voidT] w fun e w' => e = .returned (.bool (voidB s)) ∧ Below w.heap.size w w' := by
  have HT := Aside0.mk h
  clear h
  by_cases hs : s.toList = ([] : List UInt8)
  · have hv := void_empty s hs
    have e : s = ⟨#[]⟩ := (tl_lit s []).1 hs
    rw [hv]
    subst e
    clear hs hv
    go_enter Tryz.func53, Tryz.ntmps53
    go_wp2
    go_ret
    exact ⟨rfl, Below.refl _ _⟩
  · have h1 : (s.toList != ([] : List UInt8)) = true := bne_iff_ne.mpr hs
    have h0 : (s.toList == ([] : List UInt8)) = false := beq_eq_false_iff_ne.mpr hs
    obtain ⟨k, hk⟩ := val_rounds (g := fun k => slices_Contains_string_string.f k voidL s) (contains_is s hs)
    have HK := Aside0.mk hk
    clear hk
    go_enter Tryz.func53, Tryz.ntmps53
    go_wp2_with (first
      | ((with_reducible refine gate_dst (N := 9) rfl ?_); (try (refine gate_guard (by rfl) ?_; dsimp only)); refine goesL_ (some 9) rfl rfl Tryz.func59 (by kernel_rfl) rfl #[.string voidT] rfl (by (try simp only [List.map_toArray, List.map_cons, List.map_nil]); first | done | rfl) ?_; refine (fields_calls _ HT.out).mono ?_; rintro e_ w2 ⟨rfl, hw⟩; refine ⟨_, rfl, ?_⟩; have HB := Aside0.mk (show Below w.heap.size w w2 from by rw [hw]; exact below_alloc (Below.refl _ _) _); have HC := Aside0.mk (show Kd.C Kd.string w2 (some ⟨w.heap.size, 0, none⟩) 7 voidL from by rw [hw]; exact fields_C w); clear hw)
      | ((with_reducible refine gate_dst (N := 11) rfl ?_); (try (refine gate_guard (by rfl) ?_; dsimp only)); refine goesL_ (some 11) rfl rfl Tryz.func58 (by kernel_rfl) rfl #[.slice (some ⟨w.heap.size, 0, none⟩) 7 7, .string s] rfl (by (try simp only [List.map_toArray, List.map_cons, List.map_nil]); first | done | rfl) ?_; refine (slices_Contains_string_string.calls k (some ⟨w.heap.size, 0, none⟩) 7 voidL s _ _ HC.out (Nat.le_refl _) HK.out).mono ?_; rintro e_ w3 ⟨rfl, hd⟩; refine ⟨_, rfl, ?_⟩; have HB3 := Aside0.mk (below_step HB.out hd.below); clear hd))
    go_ret
    exact ⟨rfl, HB3.out⟩
set_option maxHeartbeats 4000000 in
set_option maxRecDepth 100000 in
theorem isVoid_calls (w : World) (s : ByteArray) (h : STab w) : Calls Tryz.prog 43 #[.string s] w fun e w' => e = .returned (.bool (voidB s)) ∧ Below w.heap.size w w' := by
  have HT := Aside0.mk h
  clear h
  go_enter Tryz.func43, Tryz.ntmps43
  go_wp2_with (first
    | ((with_reducible refine gate_dst (N := 4) rfl ?_); (refine goesL_ (some 4) rfl rfl Tryz.func53 (by kernel_rfl) rfl #[.string s, .string voidT] rfl (by (try simp only [List.map_toArray, List.map_cons, List.map_nil]); first | done | rfl) ?_; refine (oneOf_calls _ s HT.out).mono ?_; rintro e_ w2 ⟨rfl, hb⟩; refine ⟨_, rfl, ?_⟩; have HB := Aside0.mk hb; clear hb)))
  go_ret
  exact ⟨rfl, HB.out⟩
end Go.Proofs.YtjojmfhgfeflnaaGreatDoor.QFnExactInner
