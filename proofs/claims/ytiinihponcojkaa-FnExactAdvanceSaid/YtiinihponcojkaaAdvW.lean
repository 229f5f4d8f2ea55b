/- (*impl.face).advance, walked: how wide a row is. -/
import Derived.Test.YtiinihponcojkaaGlyphW
import Derived.Test.YtiinihponcojkaaQFnExactAdvancex13
import Derived.Test.YtiinihponcojkaaQFnExactAdvancex12
namespace Go.Proofs.Ytiinihponcojkaa.QFnExactAdvance
open Go Go.RowKit Go.Proofs.YtiinihponcojkaaV.PrintWords Go.Proofs.YtiinihponcojkaaV.PrintLast Go.Proofs.YtiinihponcojkaaV.PrintMore Go.Proofs.Ytiinihponcojkaa.MapObj Go.Proofs.Ytiinihponcojkaa.MapKey
set_option linter.unusedVariables false
set_option linter.unusedSimpArgs false

theorem shapeGo_ok {l : List S84} (h : okRune l) : ∀ (r : List Int) (x : Int), ok64 x → (∀ y ∈ r, ok64 y) → ∀ y ∈ shapeGo (ligOf l) x r, ok64 y
  | [], x, hx, _, y, hy => by
    rw [shapeGo, List.mem_singleton] at hy
    rw [hy]
    exact hx
  | z :: r, x, hx, hr, y, hy => by
    unfold shapeGo at hy
    split at hy
    · rcases List.mem_cons.1 hy with e | hy
      · rw [e]
        exact hx
      · exact shapeGo_ok h r z (hr z List.mem_cons_self) (fun y hy => hr y (List.mem_cons_of_mem _ hy)) y hy
    · rename_i v hv
      exact shapeGo_ok h r v (hLig_rune h _ (Nat.le_refl _) _ _ hv) (fun y hy => hr y (List.mem_cons_of_mem _ hy)) y hy
theorem shapeL_ok {l : List S84} (h : okRune l) {r : List Int} (hr : ∀ y ∈ r, ok64 y) : ∀ y ∈ shapeL (ligOf l) r, ok64 y := by
  cases r with
  | nil =>
    intro y hy
    cases hy
  | cons x r => exact shapeGo_ok h r x (hr x List.mem_cons_self) (fun y hy => hr y (List.mem_cons_of_mem _ hy))
def kernI (l : List S81) (p : Int × Int) : Int := (mget (hKern l l.length) p).getD 0
theorem kern_run {w' : World} {a : Operand → Value} {o : Oper} {l5 : List S81} {ge : Nat} {p : Int × Int} (m y : Operand) (hop : o.op = Op.lookup 99 m y false) (hm : a m = .map (some ge)) (hx : a y = pairV p) (hk : okP p) (ok5 : okKern l5) (hb : w'.heap[ge]? = some (oKern l5 l5.length)) : (execOp a o).run Try.prog w' = .ok (.value (.int .i64 (kernI l5 p))) w' := by
  have e := run_get (et := 3) (ev := Value.int .i64) Try.underlying99 keys_pair (z := .int .i64 0) (w := w') (by kernel_rfl) (hKern_ok ok5 _ (Nat.le_refl _)) hb hk false
  have hr : ((mget (hKern l5 l5.length) p).map (Value.int .i64)).getD (.int .i64 0) = .int .i64 (kernI l5 p) := by
    unfold kernI
    cases mget (hKern l5 l5.length) p <;> rfl
  unfold execOp
  simp [hop, hm, hx, e, hr, Result.andThen]
def advStep (l4 : List S79) (l5 : List S81) (a d size : Int) (sum : Int) (prev : Option Int) (r : Int) : Option Int := (impl_down.f (wrap64 (glyphI l4 d r * size)) a).bind fun t => match prev with
  | none => some (wrap64 (sum + t))
  | some p => (impl_down.f (wrap64 (kernI l5 (p, r) * size)) a).bind fun u => some (wrap64 (wrap64 (sum + t) + u))
def advL (l4 : List S79) (l5 : List S81) (a d size : Int) : Int → Option Int → List Int → Option Int
  | sum, _, [] => some sum
  | sum, prev, r :: rest => (advStep l4 l5 a d size sum prev r).bind fun s => advL l4 l5 a d size s (some r) rest
theorem row_cell {W : World} {base g n cap : Nat} {ok : Nat → Prop} {xs : List Int} {j : Nat} {x : Int} (h : Kd.R (Kd.int .i64) 3 W base ok (.slice (some ⟨g, 0, none⟩) n cap) xs) (hj : j < xs.length) (e : xs[j]? = some x) : W.cell? ⟨g, j, none⟩ = some (.int .i64 x) := by
  obtain ⟨A', c', e'⟩ := Kd.R_slice h
  injection e' with _ e' _
  have h1 := (Kd.R_celln (0 : Int) h (j : Int) (by omega) (by omega)).1
  rw [Int.toNat_natCast] at h1
  rw [h1]
  unfold rdOf
  rw [Int.toNat_natCast, List.getD_eq_getElem?_getD, e]
  rfl
set_option maxHeartbeats 8000000 in
set_option maxRecDepth 100000 in
theorem advance_calls (k : Nat) (w W : World) (a b c d : Int) (A4 : Option Addr) (c4 : Nat) (q4 q5 q6 : Value) (l4 : List S79) (l5 : List S81) (l6 : List S84) (gf gw ge gl : Nat) (A : Option Addr) (c1 : Nat) (l1 : List Int) (size : Int) (h4 : q4 = .slice A4 l4.length c4)
    (hF : Face W a b c d q4 q5 q6 l4 l5 l6 gf gw ge gl) (hr4 : Kd.C k79 w A4 l4.length l4) (hw : Below w.heap.size w W) (hl4 : l4.length ≤ 1048576) (ok5 : okKern l5) (ok6 : okLig l6) (okr : okRune l6) (hr : Kd.C (Kd.int .i64) W A l1.length l1) (hc : l1.length ≤ c1)
    (hs0 : 0 ≤ size) (hs1 : size ≤ 64000) (seen : List Int) (hseen : impl_seenPoints.f k l1 = some seen) (hl : seen.length ≤ 1048576) (hok : ∀ x ∈ seen, ok64 x) (s0 s1 : Int) (hadv : advL l4 l5 a d size 0 none (shapeL (ligOf l6) seen) = some s0) (hcl : impl_clamp.f s0 0 100000000 = some s1) :
    Calls Try.prog 45 #[.pointer (some ⟨gf, 0, none⟩), .slice A l1.length c1, .int .i64 size] W fun e w' => e = .returned (.int .i64 s1) ∧ Below W.heap.size W w' := by
  have HF := Aside0.mk hF
  have HR4 := Aside0.mk hr4
  have HW := Aside0.mk hw
  have HL4 := Aside0.mk hl4
  have HK5 := Aside0.mk ok5
  have HK6 := Aside0.mk ok6
  have HKR := Aside0.mk okr
  have HR := Aside0.mk hr
  have HC := Aside0.mk hc
  have H4 := Aside0.mk h4
  have HSN := Aside0.mk hseen
  have HL := Aside0.mk hl
  have HOK := Aside0.mk hok
  have HADV := Aside0.mk hadv
  have HCL := Aside0.mk hcl
  have HS0 := Aside0.mk hs0
  have hu101 := Try.underlying101
  have hu103 := Try.underlying103
  have g1 : decide (size < 0) = false := decide_eq_false (by omega)
  have g2 : decide (64000 < size) = false := decide_eq_false (by omega)
  clear hF hr4 hw hl4 ok5 ok6 okr hr hc h4 hseen hl hok hadv hcl hs0 hs1
  go_enter Try.func45, Try.ntmps45
  go_wp2_with (first
    | ((with_reducible refine gate_dst (N := 19) rfl ?_); (refine goesL_ (some 19) rfl rfl Try.func70 (by kernel_rfl) rfl #[.slice A l1.length c1] rfl (by (try simp only [List.map_toArray, List.map_cons, List.map_nil]); first | done | rfl) ?_; refine (impl_seenPoints.calls k A c1 l1 seen _ HR.out HC.out HSN.out).mono ?_; rintro e_ w2 ⟨v, rfl, hv, hb⟩; refine ⟨_, rfl, ?_⟩; have HB2 := Aside0.mk hb; have HF2 := Aside0.mk (HF.out.below hb); obtain ⟨Av, cv, ev, hcc, hC⟩ := Kd.R_reads hv; subst ev; have HSE := Aside0.mk hC; have HSC := Aside0.mk hcc; clear hb hv hcc hC HF))
    | ((with_reducible refine gate_dst (N := 20) rfl ?_); (refine goesL_ (some 20) rfl rfl Try.func33 (by kernel_rfl) rfl #[.pointer (some ⟨gf, 0, none⟩), .slice Av seen.length cv] rfl (by (try simp only [List.map_toArray, List.map_cons, List.map_nil]); first | done | rfl) ?_; refine (shape_calls _ _ _ _ _ _ _ _ l4 l5 l6 gf gw ge gl Av cv seen HF2.out HK6.out HKR.out HSE.out HSC.out HL.out HOK.out).mono ?_; rintro e_ w3 ⟨v, rfl, hv, hb⟩; refine ⟨_, rfl, ?_⟩; have HO3 := Aside0.mk (Kd.R_lower hv HB2.out.size); have HB3 := Aside0.mk (below_step HB2.out hb); have HF3 := Aside0.mk (show Face w3 a b c d q4 q5 q6 l4 l5 l6 gf gw ge gl from HF2.out.below hb); obtain ⟨Ao, co, eo⟩ := Kd.R_slice hv; subst eo; clear hb hv HF2 HB2 HSE HSC)))
  obtain ⟨out, hout⟩ : ∃ out, out = shapeL (ligOf l6) seen := ⟨_, rfl⟩
  rw [← hout] at HADV HO3 ⊢
  have HOO := Aside0.mk (show ∀ y ∈ out, ok64 y from by rw [hout]; exact shapeL_ok HKR.out HOK.out)
  have HOL := Aside0.mk (show out.length ≤ 1048576 from by rw [hout]; have := HL.out; cases seen with | nil => exact Nat.zero_le _ | cons x r => have := shapeGo_len (ligOf l6) r x; show (shapeGo _ _ _).length ≤ _; simp only [List.length_cons] at *; omega)
  clear hout
  go_loopg [8, 23] out.length (fun kq v8 v23 w' => ∃ (j : Nat) (sum : Int), v8 = .int .i64 sum ∧ v23 = .int .i64 j ∧ Aside0 (kq + j = out.length) ∧ Aside0 (advL l4 l5 a d size sum (if j = 0 then none else out[j - 1]?) (out.drop j) = some s0) ∧ Aside0 (Below W.heap.size W w') ∧ Aside0 (Face w' a b c d q4 q5 q6 l4 l5 l6 gf gw ge gl) ∧ Aside0 (Kd.R (Kd.int .i64) 3 w' W.heap.size (fun _ => True) (.slice Ao out.length co) out))
  case atStart => exact ⟨0, 0, rfl, rfl, ⟨by omega⟩, HADV, HB3, HF3, HO3⟩
  case round =>
    clear HADV HB3 HF3 HO3
    obtain ⟨j, sum, rfl, rfl, HJ, HA, HB, HF, HO⟩ := hrel
    by_cases hj : j < out.length
    · obtain ⟨gv, cg, eg, _⟩ := Kd.R_form HO.out (by omega)
      injection eg with eg _ ec
      subst eg
      subst ec
      have dj : decide ((j : Int) < (out.length : Int)) = true := decide_eq_true (by omega)
      have dj2 : decide (j < out.length) = true := decide_eq_true hj
      have p5 : (0 ≤ (j : Int)) = True := eq_true (by omega)
      have qq5 : ((j : Int) < (out.length : Int)) = True := eq_true (by omega)
      have hwj : wrap64 ((j : Int) + 1) = (j : Int) + 1 := by have := HOL.out; unfold wrap64; omega
      obtain ⟨x, hx⟩ : ∃ x, out[j]? = some x := ⟨_, List.getElem?_eq_getElem hj⟩
      have hcx : wr.cell? ⟨gv, j, none⟩ = some (.int .i64 x) := row_cell HO.out hj hx
      have HX := Aside0.mk hx
      have HJJ := Aside0.mk hj
      have hA := HA.out
      have hdr : out.drop j = x :: out.drop (j + 1) := by
        rw [List.drop_eq_getElem_cons hj]
        rw [List.getElem?_eq_getElem hj] at hx
        rw [Option.some.inj hx]
      rw [hdr, advL] at hA
      obtain ⟨s2, hs2, hA2⟩ := Option.bind_eq_some_iff.mp hA
      unfold advStep at hs2
      obtain ⟨t, ht, hs2⟩ := Option.bind_eq_some_iff.mp hs2
      have HT := Aside0.mk ht
      have HA2 := Aside0.mk hA2
      cases j with
      | zero =>
        rw [if_pos rfl] at hs2
        have hs2 := Option.some.inj hs2
        have HS2 := Aside0.mk hs2
        have g3 : decide ((0 : Int) < ((0 : Nat) : Int)) = false := rfl
        have pz : (0 < out.length) = True := eq_true hj
        clear HA hA hA2 hs2 ht hdr hx hj
        go_wp2
        clear hcx

        refine start_ (n := 14) (S := fun w' => w'.cell? ⟨gf, 0, none⟩ = some (.int .i64 a)) (ds := []) #[false, false, false, false, false, false, false, false, false, false, false, false, false, false] (by kernel_rfl) rfl rfl ((blk_cell HF.out.blk 0).trans rfl) (fun hHeld => ?_)
        have hb := below_drew1 (Below.refl wr.heap.size wr)
        have n0_ := Aside0.mk (below_step HB.out hb)
        have n1_ := Aside0.mk (HF.out.below hb)
        have n2_ := Aside0.mk (Kd.R_below HO.out hb)
        clear HB HF HO hb
        have HB := n0_
        have HF := n1_
        have HO := n2_
        clear n0_ n1_ n2_
        generalize wr.drew = wr at HB HF HO hHeld ⊢
        refine pure_ (i := 0) (N := (some 28)) (v := ?_) (a' := ?_) #[true, false, false, false, false, false, false, false, false, false, false, false, false, false] rfl rfl (by kernel_rfl) (fun _ _ _ h => h) (Or.inl ⟨by rfl, ?_⟩) ?_ ?_
        rotate_left
        · intro w'
          go_simp
          with_reducible rfl
        rotate_left
        · simp only [Act.put, List.setIfInBounds_toArray, List.set_cons_zero, List.set_cons_succ, i64_w, i32_w]
          rfl
        refine pure_ (i := 1) (N := (some 29)) (v := ?_) (a' := ?_) #[true, true, false, false, false, false, false, false, false, false, false, false, false, false] rfl rfl (by kernel_rfl) (fun _ _ _ h => h) (Or.inl ⟨by rfl, ?_⟩) ?_ ?_
        rotate_left
        · intro w'
          go_simp
          with_reducible rfl
        rotate_left
        · simp only [Act.put, List.setIfInBounds_toArray, List.set_cons_zero, List.set_cons_succ, i64_w, i32_w]
          rfl
        refine pure_ (i := 2) (N := (some 30)) (v := ?_) (a' := ?_) #[true, true, true, false, false, false, false, false, false, false, false, false, false, false] rfl rfl (by kernel_rfl) (fun _ _ _ h => h) (Or.inl ⟨by rfl, ?_⟩) ?_ ?_
        rotate_left
        · intro w'
          go_simp
          with_reducible rfl
        rotate_left
        · simp only [Act.put, List.setIfInBounds_toArray, List.set_cons_zero, List.set_cons_succ, i64_w, i32_w]
          rfl
        refine pure_ (i := 4) (N := (some 32)) (v := ?_) (a' := ?_) #[true, true, true, false, true, false, false, false, false, false, false, false, false, false] rfl rfl (by kernel_rfl) (fun _ _ _ h => h) (Or.inl ⟨by rfl, ?_⟩) ?_ ?_
        rotate_left
        · intro w'
          go_simp
          with_reducible rfl
        rotate_left
        · simp only [Act.put, List.setIfInBounds_toArray, List.set_cons_zero, List.set_cons_succ, i64_w, i32_w]
          rfl
        refine pure_ (i := 6) (N := (some 34)) (v := ?_) (a' := ?_) #[true, true, true, false, true, false, true, false, false, false, false, false, false, false] rfl rfl (by kernel_rfl) (fun _ _ _ h => h) (Or.inl ⟨by rfl, ?_⟩) ?_ ?_
        rotate_left
        · intro w'
          go_simp
          with_reducible rfl
        rotate_left
        · simp only [Act.put, List.setIfInBounds_toArray, List.set_cons_zero, List.set_cons_succ, i64_w, i32_w]
          rfl
        refine pure_ (i := 7) (N := (some 35)) (v := ?_) (a' := ?_) #[true, true, true, false, true, false, true, true, false, false, false, false, false, false] rfl rfl (by kernel_rfl) (fun _ _ _ h => h) (Or.inl ⟨by rfl, ?_⟩) ?_ ?_
        rotate_left
        · intro w'
          go_simp
          with_reducible rfl
        rotate_left
        · simp only [Act.put, List.setIfInBounds_toArray, List.set_cons_zero, List.set_cons_succ, i64_w, i32_w]
          rfl
        refine pure_ (i := 8) (N := (some 36)) (v := ?_) (a' := ?_) #[true, true, true, false, true, false, true, true, true, false, false, false, false, false] rfl rfl (by kernel_rfl) (fun _ _ _ h => h) (Or.inl ⟨by rfl, ?_⟩) ?_ ?_
        rotate_left
        · intro w'
          go_simp
          with_reducible rfl
        rotate_left
        · simp only [Act.put, List.setIfInBounds_toArray, List.set_cons_zero, List.set_cons_succ, i64_w, i32_w]
          rfl
        refine pure_ (i := 9) (N := (some 37)) (v := ?_) (a' := ?_) #[true, true, true, false, true, false, true, true, true, true, false, false, false, false] rfl rfl (by kernel_rfl) (fun _ _ _ h => h) (Or.inl ⟨by rfl, ?_⟩) ?_ ?_
        rotate_left
        · intro w'
          go_simp
          with_reducible rfl
        rotate_left
        · simp only [Act.put, List.setIfInBounds_toArray, List.set_cons_zero, List.set_cons_succ, i64_w, i32_w]
          rfl
        refine take_ (i := 10) (N := (some 38)) (v := ?_) (a' := ?_) #[true, true, true, false, true, false, true, true, true, true, true, false, false, false] rfl rfl (by kernel_rfl) (fun _ _ _ h => h) (Or.inl ⟨by rfl, ?_⟩) hHeld ?_ ?_
        rotate_left
        · rintro w' s0
          go_simp
          with_reducible rfl
        rotate_left
        · simp only [Act.put, List.setIfInBounds_toArray, List.set_cons_zero, List.set_cons_succ, i64_w, i32_w]
          rfl
        refine one_ (i := 3) (N := (some 31)) #[true, true, true, true, true, false, true, true, true, true, true, false, false, false] rfl rfl (by kernel_rfl) (by decide) (fun K hK => ?_)
        refine goes_ Try.func71 (by kernel_rfl) rfl #[.pointer (some ⟨gf, 0, none⟩), .int .i64 x] (by rfl) rfl rfl (by (try simp only [List.map_toArray, List.map_cons, List.map_nil]); first | done | rfl) ?_
        refine (glyph_calls w wr a b c d A4 c4 q4 q5 q6 l4 l5 l6 gf gw ge gl x H4.out HF.out HR4.out (below_then HW.out HW.out.size HB.out) HL4.out).mono ?_
        rintro e_ w4 ⟨rfl, hb⟩
        refine ⟨_, rfl, ?_⟩
        have n0_ := Aside0.mk (below_step HB.out hb)
        have n1_ := Aside0.mk (HF.out.below hb)
        have n2_ := Aside0.mk (Kd.R_below HO.out hb)
        clear HB HF HO hb
        have HB := n0_
        have HF := n1_
        have HO := n2_
        clear n0_ n1_ n2_
        refine hK.out _ _ ((blk_cell HF.out.blk 0).trans rfl) (fun hHeld => ?_)
        clear hK K
        refine norm_ (a' := ?_) ?_ ?_
        rotate_left
        · show Act.put _ (some 31) _ = _
          simp only [Act.put, List.setIfInBounds_toArray, List.set_cons_zero, List.set_cons_succ, i64_w, i32_w]
          rfl
        refine pure_ (i := 5) (N := (some 33)) (v := ?_) (a' := ?_) #[true, true, true, true, true, true, true, true, true, true, true, false, false, false] rfl rfl (by kernel_rfl) (fun _ _ _ h => h) (Or.inl ⟨by rfl, ?_⟩) ?_ ?_
        rotate_left
        · intro w'
          go_simp
          with_reducible rfl
        rotate_left
        · simp only [Act.put, List.setIfInBounds_toArray, List.set_cons_zero, List.set_cons_succ, i64_w, i32_w]
          rfl
        refine one_ (i := 11) (N := (some 39)) #[true, true, true, true, true, true, true, true, true, true, true, true, false, false] rfl rfl (by kernel_rfl) (by decide) (fun K hK => ?_)
        refine goes_ Try.func51 (by kernel_rfl) rfl #[.int .i64 (wrap64 (glyphI l4 d x * size)), .int .i64 a] (by rfl) rfl rfl (by (try simp only [List.map_toArray, List.map_cons, List.map_nil]); first | done | rfl) ?_
        refine (impl_down.calls _ _ t _ HT.out).mono ?_
        rintro e_ w' ⟨rfl, ⟨nd, rfl⟩⟩
        refine ⟨_, rfl, ?_⟩
        have hb : Below w4.heap.size w4 (w4.drewN nd) := by apply pw_below_drewN; exact Below.refl _ _
        have n0_ := Aside0.mk (below_step HB.out hb)
        have n1_ := Aside0.mk (HF.out.below hb)
        have n2_ := Aside0.mk (Kd.R_below HO.out hb)
        clear HB HF HO hb
        have HB := n0_
        have HF := n1_
        have HO := n2_
        clear n0_ n1_ n2_
        refine hK.out _ _ ((blk_cell HF.out.blk 0).trans rfl) (fun hHeld => ?_)
        generalize w4.drewN nd = w5 at HB HF HO hHeld ⊢
        clear hK K
        refine norm_ (a' := ?_) ?_ ?_
        rotate_left
        · show Act.put _ (some 39) _ = _
          simp only [Act.put, List.setIfInBounds_toArray, List.set_cons_zero, List.set_cons_succ, i64_w, i32_w]
          rfl
        refine pure_ (i := 12) (N := (some 40)) (v := ?_) (a' := ?_) #[true, true, true, true, true, true, true, true, true, true, true, true, true, false] rfl rfl (by kernel_rfl) (fun _ _ _ h => h) (Or.inl ⟨by rfl, ?_⟩) ?_ ?_
        rotate_left
        · intro w'
          go_simp
          with_reducible rfl
        rotate_left
        · simp only [Act.put, List.setIfInBounds_toArray, List.set_cons_zero, List.set_cons_succ, i64_w, i32_w]
          rfl
        refine pure_ (i := 13) (N := (some 8)) (v := ?_) (a' := ?_) #[true, true, true, true, true, true, true, true, true, true, true, true, true, true] rfl rfl (by kernel_rfl) (fun _ _ _ h => h) (Or.inl ⟨by rfl, ?_⟩) ?_ ?_
        rotate_left
        · intro w'
          go_simp
          with_reducible rfl
        rotate_left
        · simp only [Act.put, List.setIfInBounds_toArray, List.set_cons_zero, List.set_cons_succ, i64_w, i32_w]
          rfl
        refine done_ (by kernel_rfl) ?_
        go_wp2
        go_roundg (gk - 1)
        case measure => have := HJ.out; have := HJJ.out; omega
        case rel => exact ⟨0 + 1, _, rfl, rfl, ⟨by have := HJ.out; have := HJJ.out; omega⟩, ⟨by rw [if_neg (by omega), Nat.add_sub_cancel, HX.out, HS2.out]; exact HA2.out⟩, HB, HF, HO⟩
      | succ j =>
        have hp1 : j < out.length := by omega
        obtain ⟨p, hp⟩ : ∃ p, out[j]? = some p := ⟨_, List.getElem?_eq_getElem hp1⟩
        rw [if_neg (by omega), Nat.add_sub_cancel, hp] at hs2
        obtain ⟨u, hu, hs2⟩ := Option.bind_eq_some_iff.mp hs2
        have hs2 := Option.some.inj hs2
        have HS2 := Aside0.mk hs2
        have HU := Aside0.mk hu
        have HP := Aside0.mk hp
        have HJ1 := Aside0.mk hp1
        have HKO := Aside0.mk (show okP (p, x) from ⟨HOO.out p (List.mem_of_getElem? hp), HOO.out x (List.mem_of_getElem? hx)⟩)
        have g3 : decide ((0 : Int) < ((j + 1 : Nat) : Int)) = true := decide_eq_true (by omega)
        have g4 : decide (0 < j + 1) = true := decide_eq_true (by omega)
        have p6 : (0 ≤ (j : Int)) = True := eq_true (by omega)
        have q6_ : ((j : Int) < (out.length : Int)) = True := eq_true (by omega)
        have dj3 : decide ((j : Int) + 1 < (out.length : Int)) = true := decide_eq_true (by omega)
        have p7 : (0 ≤ (j : Int) + 1) = True := eq_true (by omega)
        have qq7 : ((j : Int) + 1 < (out.length : Int)) = True := eq_true (by omega)
        have hwm : wrap64 (((j + 1 : Nat) : Int) - 1) = (j : Int) := by have := HOL.out; unfold wrap64; omega
        have hwm2 : wrap64 (j : Int) = (j : Int) := by have := HOL.out; clear hwm; unfold wrap64; omega
        have hwj3 : wrap64 ((j : Int) + 1 + 1) = (j : Int) + 1 + 1 := by have := HOL.out; clear hwm hwm2 hwj; unfold wrap64; omega
        clear HA hA hA2 hs2 ht hdr hx hj hp hu hp1
        go_wp2
        clear hcx

        refine start_ (n := 14) (S := fun w' => w'.cell? ⟨gf, 0, none⟩ = some (.int .i64 a)) (ds := []) #[false, false, false, false, false, false, false, false, false, false, false, false, false, false] (by kernel_rfl) rfl rfl ((blk_cell HF.out.blk 0).trans rfl) (fun hHeld => ?_)
        have hb := below_drew1 (Below.refl wr.heap.size wr)
        have n0_ := Aside0.mk (below_step HB.out hb)
        have n1_ := Aside0.mk (HF.out.below hb)
        have n2_ := Aside0.mk (Kd.R_below HO.out hb)
        clear HB HF HO hb
        have HB := n0_
        have HF := n1_
        have HO := n2_
        clear n0_ n1_ n2_
        generalize wr.drew = wr at HB HF HO hHeld ⊢
        refine pure_ (i := 0) (N := (some 28)) (v := ?_) (a' := ?_) #[true, false, false, false, false, false, false, false, false, false, false, false, false, false] rfl rfl (by kernel_rfl) (fun _ _ _ h => h) (Or.inl ⟨by rfl, ?_⟩) ?_ ?_
        rotate_left
        · intro w'
          go_simp
          with_reducible rfl
        rotate_left
        · simp only [Act.put, List.setIfInBounds_toArray, List.set_cons_zero, List.set_cons_succ, i64_w, i32_w]
          rfl
        refine pure_ (i := 1) (N := (some 29)) (v := ?_) (a' := ?_) #[true, true, false, false, false, false, false, false, false, false, false, false, false, false] rfl rfl (by kernel_rfl) (fun _ _ _ h => h) (Or.inl ⟨by rfl, ?_⟩) ?_ ?_
        rotate_left
        · intro w'
          go_simp
          with_reducible rfl
        rotate_left
        · simp only [Act.put, List.setIfInBounds_toArray, List.set_cons_zero, List.set_cons_succ, i64_w, i32_w]
          rfl
        refine pure_ (i := 2) (N := (some 30)) (v := ?_) (a' := ?_) #[true, true, true, false, false, false, false, false, false, false, false, false, false, false] rfl rfl (by kernel_rfl) (fun _ _ _ h => h) (Or.inl ⟨by rfl, ?_⟩) ?_ ?_
        rotate_left
        · intro w'
          go_simp
          with_reducible rfl
        rotate_left
        · simp only [Act.put, List.setIfInBounds_toArray, List.set_cons_zero, List.set_cons_succ, i64_w, i32_w]
          rfl
        refine pure_ (i := 4) (N := (some 32)) (v := ?_) (a' := ?_) #[true, true, true, false, true, false, false, false, false, false, false, false, false, false] rfl rfl (by kernel_rfl) (fun _ _ _ h => h) (Or.inl ⟨by rfl, ?_⟩) ?_ ?_
        rotate_left
        · intro w'
          go_simp
          with_reducible rfl
        rotate_left
        · simp only [Act.put, List.setIfInBounds_toArray, List.set_cons_zero, List.set_cons_succ, i64_w, i32_w]
          rfl
        refine pure_ (i := 6) (N := (some 34)) (v := ?_) (a' := ?_) #[true, true, true, false, true, false, true, false, false, false, false, false, false, false] rfl rfl (by kernel_rfl) (fun _ _ _ h => h) (Or.inl ⟨by rfl, ?_⟩) ?_ ?_
        rotate_left
        · intro w'
          go_simp
          with_reducible rfl
        rotate_left
        · simp only [Act.put, List.setIfInBounds_toArray, List.set_cons_zero, List.set_cons_succ, i64_w, i32_w]
          rfl
        refine pure_ (i := 7) (N := (some 35)) (v := ?_) (a' := ?_) #[true, true, true, false, true, false, true, true, false, false, false, false, false, false] rfl rfl (by kernel_rfl) (fun _ _ _ h => h) (Or.inl ⟨by rfl, ?_⟩) ?_ ?_
        rotate_left
        · intro w'
          go_simp
          with_reducible rfl
        rotate_left
        · simp only [Act.put, List.setIfInBounds_toArray, List.set_cons_zero, List.set_cons_succ, i64_w, i32_w]
          rfl
        refine pure_ (i := 8) (N := (some 36)) (v := ?_) (a' := ?_) #[true, true, true, false, true, false, true, true, true, false, false, false, false, false] rfl rfl (by kernel_rfl) (fun _ _ _ h => h) (Or.inl ⟨by rfl, ?_⟩) ?_ ?_
        rotate_left
        · intro w'
          go_simp
          with_reducible rfl
        rotate_left
        · simp only [Act.put, List.setIfInBounds_toArray, List.set_cons_zero, List.set_cons_succ, i64_w, i32_w]
          rfl
        refine pure_ (i := 9) (N := (some 37)) (v := ?_) (a' := ?_) #[true, true, true, false, true, false, true, true, true, true, false, false, false, false] rfl rfl (by kernel_rfl) (fun _ _ _ h => h) (Or.inl ⟨by rfl, ?_⟩) ?_ ?_
        rotate_left
        · intro w'
          go_simp
          with_reducible rfl
        rotate_left
        · simp only [Act.put, List.setIfInBounds_toArray, List.set_cons_zero, List.set_cons_succ, i64_w, i32_w]
          rfl
        refine take_ (i := 10) (N := (some 38)) (v := ?_) (a' := ?_) #[true, true, true, false, true, false, true, true, true, true, true, false, false, false] rfl rfl (by kernel_rfl) (fun _ _ _ h => h) (Or.inl ⟨by rfl, ?_⟩) hHeld ?_ ?_
        rotate_left
        · rintro w' s0
          go_simp
          with_reducible rfl
        rotate_left
        · simp only [Act.put, List.setIfInBounds_toArray, List.set_cons_zero, List.set_cons_succ, i64_w, i32_w]
          rfl
        refine one_ (i := 3) (N := (some 31)) #[true, true, true, true, true, false, true, true, true, true, true, false, false, false] rfl rfl (by kernel_rfl) (by decide) (fun K hK => ?_)
        refine goes_ Try.func71 (by kernel_rfl) rfl #[.pointer (some ⟨gf, 0, none⟩), .int .i64 x] (by rfl) rfl rfl (by (try simp only [List.map_toArray, List.map_cons, List.map_nil]); first | done | rfl) ?_
        refine (glyph_calls w wr a b c d A4 c4 q4 q5 q6 l4 l5 l6 gf gw ge gl x H4.out HF.out HR4.out (below_then HW.out HW.out.size HB.out) HL4.out).mono ?_
        rintro e_ w4 ⟨rfl, hb⟩
        refine ⟨_, rfl, ?_⟩
        have n0_ := Aside0.mk (below_step HB.out hb)
        have n1_ := Aside0.mk (HF.out.below hb)
        have n2_ := Aside0.mk (Kd.R_below HO.out hb)
        clear HB HF HO hb
        have HB := n0_
        have HF := n1_
        have HO := n2_
        clear n0_ n1_ n2_
        refine hK.out _ _ ((blk_cell HF.out.blk 0).trans rfl) (fun hHeld => ?_)
        clear hK K
        refine norm_ (a' := ?_) ?_ ?_
        rotate_left
        · show Act.put _ (some 31) _ = _
          simp only [Act.put, List.setIfInBounds_toArray, List.set_cons_zero, List.set_cons_succ, i64_w, i32_w]
          rfl
        refine pure_ (i := 5) (N := (some 33)) (v := ?_) (a' := ?_) #[true, true, true, true, true, true, true, true, true, true, true, false, false, false] rfl rfl (by kernel_rfl) (fun _ _ _ h => h) (Or.inl ⟨by rfl, ?_⟩) ?_ ?_
        rotate_left
        · intro w'
          go_simp
          with_reducible rfl
        rotate_left
        · simp only [Act.put, List.setIfInBounds_toArray, List.set_cons_zero, List.set_cons_succ, i64_w, i32_w]
          rfl
        refine one_ (i := 11) (N := (some 39)) #[true, true, true, true, true, true, true, true, true, true, true, true, false, false] rfl rfl (by kernel_rfl) (by decide) (fun K hK => ?_)
        refine goes_ Try.func51 (by kernel_rfl) rfl #[.int .i64 (wrap64 (glyphI l4 d x * size)), .int .i64 a] (by rfl) rfl rfl (by (try simp only [List.map_toArray, List.map_cons, List.map_nil]); first | done | rfl) ?_
        refine (impl_down.calls _ _ t _ HT.out).mono ?_
        rintro e_ w' ⟨rfl, ⟨nd, rfl⟩⟩
        refine ⟨_, rfl, ?_⟩
        have hb : Below w4.heap.size w4 (w4.drewN nd) := by apply pw_below_drewN; exact Below.refl _ _
        have n0_ := Aside0.mk (below_step HB.out hb)
        have n1_ := Aside0.mk (HF.out.below hb)
        have n2_ := Aside0.mk (Kd.R_below HO.out hb)
        clear HB HF HO hb
        have HB := n0_
        have HF := n1_
        have HO := n2_
        clear n0_ n1_ n2_
        refine hK.out _ _ ((blk_cell HF.out.blk 0).trans rfl) (fun hHeld => ?_)
        generalize w4.drewN nd = w5 at HB HF HO hHeld ⊢
        clear hK K
        refine norm_ (a' := ?_) ?_ ?_
        rotate_left
        · show Act.put _ (some 39) _ = _
          simp only [Act.put, List.setIfInBounds_toArray, List.set_cons_zero, List.set_cons_succ, i64_w, i32_w]
          rfl
        refine pure_ (i := 12) (N := (some 40)) (v := ?_) (a' := ?_) #[true, true, true, true, true, true, true, true, true, true, true, true, true, false] rfl rfl (by kernel_rfl) (fun _ _ _ h => h) (Or.inl ⟨by rfl, ?_⟩) ?_ ?_
        rotate_left
        · intro w'
          go_simp
          with_reducible rfl
        rotate_left
        · simp only [Act.put, List.setIfInBounds_toArray, List.set_cons_zero, List.set_cons_succ, i64_w, i32_w]
          rfl
        refine pure_ (i := 13) (N := (some 8)) (v := ?_) (a' := ?_) #[true, true, true, true, true, true, true, true, true, true, true, true, true, true] rfl rfl (by kernel_rfl) (fun _ _ _ h => h) (Or.inl ⟨by rfl, ?_⟩) ?_ ?_
        rotate_left
        · intro w'
          go_simp
          with_reducible rfl
        rotate_left
        · simp only [Act.put, List.setIfInBounds_toArray, List.set_cons_zero, List.set_cons_succ, i64_w, i32_w]
          rfl
        refine done_ (by kernel_rfl) ?_
        go_wp2

        refine start_ (n := 23) (S := fun w' => w'.cell? ⟨gf, 8, none⟩ = some (.map (some ge)) ∧ w'.cell? ⟨gf, 0, none⟩ = some (.int .i64 a) ∧ w'.heap[ge]? = some (oKern l5 l5.length) ∧ w'.cell? ⟨gv, j, none⟩ = some (.int .i64 p)) (ds := []) #[false, false, false, false, false, false, false, false, false, false, false, false, false, false, false, false, false, false, false, false, false, false, false] (by kernel_rfl) rfl rfl ⟨(blk_cell HF.out.blk 8).trans rfl, (blk_cell HF.out.blk 0).trans rfl, HF.out.kern, row_cell HO.out HJ1.out HP.out⟩ (fun hHeld => ?_)
        have hb := below_drew1 (Below.refl w5.heap.size w5)
        have n0_ := Aside0.mk (below_step HB.out hb)
        have n1_ := Aside0.mk (HF.out.below hb)
        have n2_ := Aside0.mk (Kd.R_below HO.out hb)
        clear HB HF HO hb
        have HB := n0_
        have HF := n1_
        have HO := n2_
        clear n0_ n1_ n2_
        generalize w5.drew = w6 at HB HF HO hHeld ⊢
        refine pure_ (i := 0) (N := (some 43)) (v := ?_) (a' := ?_) #[true, false, false, false, false, false, false, false, false, false, false, false, false, false, false, false, false, false, false, false, false, false, false] rfl rfl (by kernel_rfl) (fun _ _ _ h => h) (Or.inl ⟨by rfl, ?_⟩) ?_ ?_
        rotate_left
        · intro w'
          go_simp
          with_reducible rfl
        rotate_left
        · simp only [Act.put, List.setIfInBounds_toArray, List.set_cons_zero, List.set_cons_succ, i64_w, i32_w]
          rfl
        refine pure_ (i := 1) (N := (some 44)) (v := ?_) (a' := ?_) #[true, true, false, false, false, false, false, false, false, false, false, false, false, false, false, false, false, false, false, false, false, false, false] rfl rfl (by kernel_rfl) (fun _ _ _ h => h) (Or.inl ⟨by rfl, ?_⟩) ?_ ?_
        rotate_left
        · intro w'
          go_simp
          with_reducible rfl
        rotate_left
        · simp only [Act.put, List.setIfInBounds_toArray, List.set_cons_zero, List.set_cons_succ, i64_w, i32_w]
          rfl
        refine pure_ (i := 2) (N := (some 45)) (v := ?_) (a' := ?_) #[true, true, true, false, false, false, false, false, false, false, false, false, false, false, false, false, false, false, false, false, false, false, false] rfl rfl (by kernel_rfl) (fun _ _ _ h => h) (Or.inl ⟨by rfl, ?_⟩) ?_ ?_
        rotate_left
        · intro w'
          go_simp
          with_reducible rfl
        rotate_left
        · simp only [Act.put, List.setIfInBounds_toArray, List.set_cons_zero, List.set_cons_succ, i64_w, i32_w]
          rfl
        refine pure_ (i := 3) (N := (some 46)) (v := ?_) (a' := ?_) #[true, true, true, true, false, false, false, false, false, false, false, false, false, false, false, false, false, false, false, false, false, false, false] rfl rfl (by kernel_rfl) (fun _ _ _ h => h) (Or.inl ⟨by rfl, ?_⟩) ?_ ?_
        rotate_left
        · intro w'
          go_simp
          with_reducible rfl
        rotate_left
        · simp only [Act.put, List.setIfInBounds_toArray, List.set_cons_zero, List.set_cons_succ, i64_w, i32_w]
          rfl
        refine take_ (i := 4) (N := (some 47)) (v := ?_) (a' := ?_) #[true, true, true, true, true, false, false, false, false, false, false, false, false, false, false, false, false, false, false, false, false, false, false] rfl rfl (by kernel_rfl) (fun _ _ _ h => h) (Or.inl ⟨by rfl, ?_⟩) hHeld ?_ ?_
        rotate_left
        · rintro w' ⟨s0, s1, s2, s3⟩
          go_simp
          with_reducible rfl
        rotate_left
        · simp only [Act.put, List.setIfInBounds_toArray, List.set_cons_zero, List.set_cons_succ, i64_w, i32_w]
          rfl
        refine pure_ (i := 5) (N := (some 48)) (v := ?_) (a' := ?_) #[true, true, true, true, true, true, false, false, false, false, false, false, false, false, false, false, false, false, false, false, false, false, false] rfl rfl (by kernel_rfl) (fun _ _ _ h => h) (Or.inl ⟨by rfl, ?_⟩) ?_ ?_
        rotate_left
        · intro w'
          go_simp
          with_reducible rfl
        rotate_left
        · simp only [Act.put, List.setIfInBounds_toArray, List.set_cons_zero, List.set_cons_succ, i64_w, i32_w]
          rfl
        refine pure_ (i := 6) (N := (some 49)) (v := ?_) (a' := ?_) #[true, true, true, true, true, true, true, false, false, false, false, false, false, false, false, false, false, false, false, false, false, false, false] rfl rfl (by kernel_rfl) (fun _ _ _ h => h) (Or.inl ⟨by rfl, ?_⟩) ?_ ?_
        rotate_left
        · intro w'
          go_simp
          with_reducible rfl
        rotate_left
        · simp only [Act.put, List.setIfInBounds_toArray, List.set_cons_zero, List.set_cons_succ, i64_w, i32_w]
          rfl
        refine pure_ (i := 7) (N := (some 50)) (v := ?_) (a' := ?_) #[true, true, true, true, true, true, true, true, false, false, false, false, false, false, false, false, false, false, false, false, false, false, false] rfl rfl (by kernel_rfl) (fun _ _ _ h => h) (Or.inl ⟨by rfl, ?_⟩) ?_ ?_
        rotate_left
        · intro w'
          go_simp
          with_reducible rfl
        rotate_left
        · simp only [Act.put, List.setIfInBounds_toArray, List.set_cons_zero, List.set_cons_succ, i64_w, i32_w]
          rfl
        refine pure_ (i := 8) (N := (some 51)) (v := ?_) (a' := ?_) #[true, true, true, true, true, true, true, true, true, false, false, false, false, false, false, false, false, false, false, false, false, false, false] rfl rfl (by kernel_rfl) (fun _ _ _ h => h) (Or.inl ⟨by rfl, ?_⟩) ?_ ?_
        rotate_left
        · intro w'
          go_simp
          with_reducible rfl
        rotate_left
        · simp only [Act.put, List.setIfInBounds_toArray, List.set_cons_zero, List.set_cons_succ, i64_w, i32_w]
          rfl
        refine take_ (i := 9) (N := (some 52)) (v := ?_) (a' := ?_) #[true, true, true, true, true, true, true, true, true, true, false, false, false, false, false, false, false, false, false, false, false, false, false] rfl rfl (by kernel_rfl) (fun _ _ _ h => h) (Or.inl ⟨by rfl, ?_⟩) hHeld ?_ ?_
        rotate_left
        · rintro w' ⟨s0, s1, s2, s3⟩
          go_simp
          with_reducible rfl
        rotate_left
        · simp only [Act.put, List.setIfInBounds_toArray, List.set_cons_zero, List.set_cons_succ, i64_w, i32_w]
          rfl
        refine pure_ (i := 10) (N := (some 53)) (v := ?_) (a' := ?_) #[true, true, true, true, true, true, true, true, true, true, true, false, false, false, false, false, false, false, false, false, false, false, false] rfl rfl (by kernel_rfl) (fun _ _ _ h => h) (Or.inl ⟨by rfl, ?_⟩) ?_ ?_
        rotate_left
        · intro w'
          go_simp
          with_reducible rfl
        rotate_left
        · simp only [Act.put, List.setIfInBounds_toArray, List.set_cons_zero, List.set_cons_succ, i64_w, i32_w]
          rfl
        refine pure_ (i := 11) (N := (some 54)) (v := ?_) (a' := ?_) #[true, true, true, true, true, true, true, true, true, true, true, true, false, false, false, false, false, false, false, false, false, false, false] rfl rfl (by kernel_rfl) (fun _ _ _ h => h) (Or.inl ⟨by rfl, ?_⟩) ?_ ?_
        rotate_left
        · intro w'
          go_simp
          with_reducible rfl
        rotate_left
        · simp only [Act.put, List.setIfInBounds_toArray, List.set_cons_zero, List.set_cons_succ, i64_w, i32_w]
          rfl
        refine take_ (i := 12) (N := (some 55)) (v := .int .i64 (kernI l5 (p, x))) (a' := ?_) #[true, true, true, true, true, true, true, true, true, true, true, true, true, false, false, false, false, false, false, false, false, false, false] rfl rfl (by kernel_rfl) (fun _ _ _ h => h) (Or.inl ⟨by rfl, ?_⟩) hHeld ?_ ?_
        · rintro w' ⟨s0, s1, s2, s3⟩
          exact kern_run (p := (p, x)) _ _ rfl rfl rfl HKO.out HK5.out s2
        rotate_left
        · simp only [Act.put, List.setIfInBounds_toArray, List.set_cons_zero, List.set_cons_succ, i64_w, i32_w]
          rfl
        refine pure_ (i := 13) (N := (some 56)) (v := ?_) (a' := ?_) #[true, true, true, true, true, true, true, true, true, true, true, true, true, true, false, false, false, false, false, false, false, false, false] rfl rfl (by kernel_rfl) (fun _ _ _ h => h) (Or.inl ⟨by rfl, ?_⟩) ?_ ?_
        rotate_left
        · intro w'
          go_simp
          with_reducible rfl
        rotate_left
        · simp only [Act.put, List.setIfInBounds_toArray, List.set_cons_zero, List.set_cons_succ, i64_w, i32_w]
          rfl
        refine pure_ (i := 14) (N := (some 57)) (v := ?_) (a' := ?_) #[true, true, true, true, true, true, true, true, true, true, true, true, true, true, true, false, false, false, false, false, false, false, false] rfl rfl (by kernel_rfl) (fun _ _ _ h => h) (Or.inl ⟨by rfl, ?_⟩) ?_ ?_
        rotate_left
        · intro w'
          go_simp
          with_reducible rfl
        rotate_left
        · simp only [Act.put, List.setIfInBounds_toArray, List.set_cons_zero, List.set_cons_succ, i64_w, i32_w]
          rfl
        refine pure_ (i := 15) (N := (some 58)) (v := ?_) (a' := ?_) #[true, true, true, true, true, true, true, true, true, true, true, true, true, true, true, true, false, false, false, false, false, false, false] rfl rfl (by kernel_rfl) (fun _ _ _ h => h) (Or.inl ⟨by rfl, ?_⟩) ?_ ?_
        rotate_left
        · intro w'
          go_simp
          with_reducible rfl
        rotate_left
        · simp only [Act.put, List.setIfInBounds_toArray, List.set_cons_zero, List.set_cons_succ, i64_w, i32_w]
          rfl
        refine pure_ (i := 16) (N := (some 59)) (v := ?_) (a' := ?_) #[true, true, true, true, true, true, true, true, true, true, true, true, true, true, true, true, true, false, false, false, false, false, false] rfl rfl (by kernel_rfl) (fun _ _ _ h => h) (Or.inl ⟨by rfl, ?_⟩) ?_ ?_
        rotate_left
        · intro w'
          go_simp
          with_reducible rfl
        rotate_left
        · simp only [Act.put, List.setIfInBounds_toArray, List.set_cons_zero, List.set_cons_succ, i64_w, i32_w]
          rfl
        refine pure_ (i := 17) (N := (some 60)) (v := ?_) (a' := ?_) #[true, true, true, true, true, true, true, true, true, true, true, true, true, true, true, true, true, true, false, false, false, false, false] rfl rfl (by kernel_rfl) (fun _ _ _ h => h) (Or.inl ⟨by rfl, ?_⟩) ?_ ?_
        rotate_left
        · intro w'
          go_simp
          with_reducible rfl
        rotate_left
        · simp only [Act.put, List.setIfInBounds_toArray, List.set_cons_zero, List.set_cons_succ, i64_w, i32_w]
          rfl
        refine pure_ (i := 18) (N := (some 61)) (v := ?_) (a' := ?_) #[true, true, true, true, true, true, true, true, true, true, true, true, true, true, true, true, true, true, true, false, false, false, false] rfl rfl (by kernel_rfl) (fun _ _ _ h => h) (Or.inl ⟨by rfl, ?_⟩) ?_ ?_
        rotate_left
        · intro w'
          go_simp
          with_reducible rfl
        rotate_left
        · simp only [Act.put, List.setIfInBounds_toArray, List.set_cons_zero, List.set_cons_succ, i64_w, i32_w]
          rfl
        refine take_ (i := 19) (N := (some 62)) (v := ?_) (a' := ?_) #[true, true, true, true, true, true, true, true, true, true, true, true, true, true, true, true, true, true, true, true, false, false, false] rfl rfl (by kernel_rfl) (fun _ _ _ h => h) (Or.inl ⟨by rfl, ?_⟩) hHeld ?_ ?_
        rotate_left
        · rintro w' ⟨s0, s1, s2, s3⟩
          go_simp
          with_reducible rfl
        rotate_left
        · simp only [Act.put, List.setIfInBounds_toArray, List.set_cons_zero, List.set_cons_succ, i64_w, i32_w]
          rfl
        refine one_ (i := 20) (N := (some 63)) #[true, true, true, true, true, true, true, true, true, true, true, true, true, true, true, true, true, true, true, true, true, false, false] rfl rfl (by kernel_rfl) (by decide) (fun K hK => ?_)
        refine goes_ Try.func51 (by kernel_rfl) rfl #[.int .i64 (wrap64 (kernI l5 (p, x) * size)), .int .i64 a] (by rfl) rfl rfl (by (try simp only [List.map_toArray, List.map_cons, List.map_nil]); first | done | rfl) ?_
        refine (impl_down.calls _ _ u _ HU.out).mono ?_
        rintro e_ w' ⟨rfl, ⟨nd, rfl⟩⟩
        refine ⟨_, rfl, ?_⟩
        have hb : Below w6.heap.size w6 (w6.drewN nd) := by apply pw_below_drewN; exact Below.refl _ _
        have n0_ := Aside0.mk (below_step HB.out hb)
        have n1_ := Aside0.mk (HF.out.below hb)
        have n2_ := Aside0.mk (Kd.R_below HO.out hb)
        clear HB HF HO hb
        have HB := n0_
        have HF := n1_
        have HO := n2_
        clear n0_ n1_ n2_
        refine hK.out _ _ ⟨(blk_cell HF.out.blk 8).trans rfl, (blk_cell HF.out.blk 0).trans rfl, HF.out.kern, row_cell HO.out HJ1.out HP.out⟩ (fun hHeld => ?_)
        generalize w6.drewN nd = w7 at HB HF HO hHeld ⊢
        clear hK K
        refine norm_ (a' := ?_) ?_ ?_
        rotate_left
        · show Act.put _ (some 63) _ = _
          simp only [Act.put, List.setIfInBounds_toArray, List.set_cons_zero, List.set_cons_succ, i64_w, i32_w]
          rfl
        refine pure_ (i := 21) (N := (some 64)) (v := ?_) (a' := ?_) #[true, true, true, true, true, true, true, true, true, true, true, true, true, true, true, true, true, true, true, true, true, true, false] rfl rfl (by kernel_rfl) (fun _ _ _ h => h) (Or.inl ⟨by rfl, ?_⟩) ?_ ?_
        rotate_left
        · intro w'
          go_simp
          with_reducible rfl
        rotate_left
        · simp only [Act.put, List.setIfInBounds_toArray, List.set_cons_zero, List.set_cons_succ, i64_w, i32_w]
          rfl
        refine pure_ (i := 22) (N := (some 8)) (v := ?_) (a' := ?_) #[true, true, true, true, true, true, true, true, true, true, true, true, true, true, true, true, true, true, true, true, true, true, true] rfl rfl (by kernel_rfl) (fun _ _ _ h => h) (Or.inl ⟨by rfl, ?_⟩) ?_ ?_
        rotate_left
        · intro w'
          go_simp
          with_reducible rfl
        rotate_left
        · simp only [Act.put, List.setIfInBounds_toArray, List.set_cons_zero, List.set_cons_succ, i64_w, i32_w]
          rfl
        refine done_ (by kernel_rfl) ?_
        go_wp2
        go_roundg (gk - 1)
        case measure => have := HJ.out; have := HJJ.out; omega
        case rel => exact ⟨j + 1 + 1, _, rfl, by rw [hwj3]; rfl, ⟨by have := HJ.out; have := HJJ.out; omega⟩, ⟨by rw [if_neg (by omega), Nat.add_sub_cancel, HX.out, HS2.out]; exact HA2.out⟩, HB, HF, HO⟩
    · have dj : decide ((j : Int) < (out.length : Int)) = false := decide_eq_false (by omega)
      have dj2 : decide (j < out.length) = false := decide_eq_false hj
      have hjl : j = out.length := by have := HJ.out; omega
      have hA := HA.out
      rw [hjl, List.drop_length, advL] at hA
      obtain rfl := Option.some.inj hA
      clear hj hjl HA hA
      go_wp2_with (first
        | ((with_reducible refine gate_dst (N := 67) rfl ?_); (refine goesL_ (some 67) rfl rfl Try.func72 (by kernel_rfl) rfl #[.int .i64 sum, .int .i64 0, .int .i64 100000000] rfl (by (try simp only [List.map_toArray, List.map_cons, List.map_nil]); first | done | rfl) ?_; refine (impl_clamp.calls _ _ _ s1 _ HCL.out).mono ?_; rintro e_ w5 ⟨rfl, hb⟩; refine ⟨_, rfl, ?_⟩; have HB5 := Aside0.mk (below_step HB.out hb); clear hb)))
      go_ret
      exact ⟨rfl, HB5.out⟩
end Go.Proofs.Ytiinihponcojkaa.QFnExactAdvance
