/- impl.PlainFont's closure 'add': glyphs put behind a font's own, one for each rune. -/
import Derived.Test.YtbhmoodfninbjaaQFnExactPlainFontx0
import Derived.Test.YtbhmoodfninbjaaDyn
namespace Go.Proofs.Ytbhmoodfninbjaa.QFnExactPlainFont
open Go Go.RowKit Go.Proofs.YtbhmoodfninbjaaW.PrintWords Go.Proofs.YtbhmoodfninbjaaW.PrintLast Go.Proofs.YtbhmoodfninbjaaW.PrintMore Go.Proofs.Ytbhmoodfninbjaa.Dyn
set_option linter.unusedVariables false
set_option linter.unusedSimpArgs false
def zeroFont : Obj := .cells #[.int .i64 0, .int .i64 0, .int .i64 0, .int .i64 0, .slice none 0 0, .slice none 0 0, .slice none 0 0] 26 (0, 0)
def glyphs (adv : Int) (rs : List Int) : List S34 := rs.map fun r => (⟨r, adv⟩ : S34)
/-- The world while the font is made: the result's cell, the font's own box with its glyphs. -/
structure FS (w W : World) (gz gb : Nat) (v : Value) (xs : List S34) : Prop where
  bel : Below w.heap.size w W
  bz : W.heap[gz]? = some (.cells #[.int .i64 0, .int .i64 0, .int .i64 0, .int .i64 0, .slice none 0 0, .slice none 0 0, .slice none 0 0] 26 (0, 0))
  bk : W.heap[gb]? = some (.cells #[.int .i64 1000, .int .i64 800, .int .i64 200, .int .i64 600, v, .slice none 0 0, .slice none 0 0] 26 (0, 0))
  row : Kd.R k34 34 W w.heap.size (fun _ => True) v xs
set_option maxHeartbeats 8000000 in
set_option maxRecDepth 100000 in
theorem add_calls (w W : World) (gz gb : Nat) (adv : Int) (vr : Value) (rs : List Int) (v : Value) (xs : List S34) (h : FS w W gz gb v xs) (hgb : w.heap.size ≤ gb) (hne : gz ≠ gb)
    (hr : Kd.R (Kd.int .i64) 3 W w.heap.size (fun _ => True) vr rs) (hx : xs.length ≤ 100) (hrs : rs.length ≤ 100) :
    Calls Try.prog 10 #[.int .i64 adv, vr, .pointer (some ⟨gb, 0, none⟩)] W fun e w' => e = .returned (.tuple #[]) ∧ ∃ v', FS w w' gz gb v' (xs ++ glyphs adv rs) := by
  have HB := Aside0.mk h.bel
  have BZ := Aside0.mk h.bz
  have BK := Aside0.mk h.bk
  have HO := Aside0.mk h.row
  have HR := Aside0.mk hr
  have GE := Aside0.mk hgb
  have NB := Aside0.mk hne
  have HX := Aside0.mk hx
  have HRS := Aside0.mk hrs
  have hu26 := Try.underlying26
  have hu34 := Try.underlying34
  obtain ⟨Ar, cr, er⟩ := Kd.R_slice hr
  subst er
  clear h hr hgb hne hx hrs
  go_enter Try.func10, Try.ntmps10
  go_wp2
  go_loopg [9] rs.length (fun kq v9 w' => ∃ (j : Nat) (u : Value), v9 = .int .i64 j ∧ Aside0 (kq + j = rs.length) ∧ Aside0 (Kd.R k34 34 w' w.heap.size (fun _ => True) u (xs ++ glyphs adv (rs.take j))) ∧ Aside0 (Kd.R (Kd.int .i64) 3 w' w.heap.size (fun _ => True) (.slice Ar rs.length cr) rs) ∧ Aside0 (w'.heap[gz]? = some (.cells #[.int .i64 0, .int .i64 0, .int .i64 0, .int .i64 0, .slice none 0 0, .slice none 0 0, .slice none 0 0] 26 (0, 0))) ∧ Aside0 (w'.heap[gb]? = some (.cells #[.int .i64 1000, .int .i64 800, .int .i64 200, .int .i64 600, u, .slice none 0 0, .slice none 0 0] 26 (0, 0))) ∧ Aside0 (Below w.heap.size w w'))
  case atStart => exact ⟨0, v, rfl, ⟨by omega⟩, ⟨by rw [List.take_zero]; show Kd.R _ _ _ _ _ _ (xs ++ []); rw [List.append_nil]; exact HO.out⟩, HR, BZ, BK, HB⟩
  case round =>
    clear HO HR BZ BK HB
    obtain ⟨j, u, rfl, HJ, HO, HR, BZ, BK, HB⟩ := hrel
    by_cases hj : j < rs.length
    · have dq : decide ((j : Int) < (rs.length : Int)) = true := decide_eq_true (by omega)
      have dq2 : decide (j < rs.length) = true := decide_eq_true hj
      have HLT := Aside0.mk hj
      obtain ⟨adj, ej, hxj⟩ := Kd.at_int (Kd.R_reads' HR.out).2.2 (j : Int) (by omega) (by omega)
      cases ej
      rw [Int.toNat_natCast] at hxj
      have p5 : (0 ≤ (j : Int)) = True := eq_true (by omega)
      have q5 : ((j : Int) < (rs.length : Int)) = True := eq_true (by omega)
      have HL := Aside0.mk (show (xs ++ glyphs adv (rs.take j)).length ≤ 200 from by unfold glyphs; rw [List.length_append, List.length_map, List.length_take]; have := HX.out; have := HRS.out; omega)
      have HN := Aside0.mk (show (xs ++ glyphs adv (rs.take j)) ++ [(⟨rd rs (j : Int), adv⟩ : S34)] = xs ++ glyphs adv (rs.take (j + 1)) from by
        unfold glyphs
        rw [List.append_assoc, List.take_succ_eq_append_getElem hj, List.map_append]
        congr 2
        show [_] = [_]
        congr 2
        unfold rd
        rw [Int.toNat_natCast, List.getD_eq_getElem?_getD, List.getElem?_eq_getElem hj]
        rfl)
      obtain ⟨zs, hzs⟩ : ∃ zs, zs = xs ++ glyphs adv (rs.take (j + 1)) := ⟨_, rfl⟩
      have HZ := Aside0.mk hzs
      rw [← hzs] at HN
      clear hzs
      have hwj : wrap64 ((j : Int) + 1) = ((j + 1 : Nat) : Int) := by have := HRS.out; unfold wrap64; omega
      have HWJ := Aside0.mk hwj
      generalize hy : xs ++ glyphs adv (rs.take j) = ys at HO HL HN
      clear hy hj hwj
      obtain ⟨Au, cu, eu⟩ := Kd.R_slice HO.out
      have hcz_4 : wr.cell? ⟨gb, 4, none⟩ = some u := (blk_cell BK.out 4).trans rfl
      subst eu
      have hfz_4 := blk_frozen BK.out 4
      go_wp2_with (first
        | ((with_reducible refine gate_builtin (b := .append) (xs := #[.tmp 14, .tmp 18]) rfl ?_); at_builtin; refine Kd.R_append k34 (w0 := w) w.heap.size rfl (.tmp 14) (.tmp 18) 22 34 (.agg #[(.int .i64 0), (.int .i64 0)]) 16 rfl Try.underlying22 info34 rfl (by decide) (by omega) (.slice Au ys.length cu) ys (⟨rd rs (j : Int), adv⟩ : S34) [.int .i64 (rd rs (j : Int)), .int .i64 adv] (fun _ => True) (fun _ => False) rfl rfl ?aP (fun _ hk => hk.elim) ?aF ?aO ?aB ?aS ?aL ?_; (case aP => exact k34_mkM _ _ _ (⟨rd rs (j : Int), adv⟩ : S34)); (case aB => exact HB.out); (case aF => exact (fun _ _ => trivial)); (case aO => exact HO.out); (case aS => exact HB.out.size); (case aL => have := HL.out; omega); intro v19 w19 ho hb hg hat; rw [HN.out] at ho; have n0_ := Aside0.mk (Kd.R_over' HR.out (Kd.R_typed HO.out) (by decide) hg); have n1_ := Aside0.mk (blk_grown BZ.out hg (Kd.R_ne HO.out BZ.out (by decide))); have n2_ := Aside0.mk (blk_grown BK.out hg (Kd.R_ne HO.out BK.out (by decide))); have n3_ := Aside0.mk hb; have n4_ := Aside0.mk ho; clear HR BZ BK HB HO; have HR := n0_; have BZ := n1_; have BK := n2_; have HB := n3_; have HO := n4_; clear n0_ n1_ n2_ n3_ n4_ ho hb hg hat hcz_4 hfz_4 hxj; obtain ⟨A2, c2, e2⟩ := Kd.R_slice HO.out; subst e2; have hcy_4 : w19.cell? ⟨gb, 4, none⟩ = some (.slice Au ys.length cu) := (blk_cell BK.out 4).trans rfl; have hfy_4 := blk_frozen BK.out 4))
      go_roundg (gk - 1)
      case measure => have := HJ.out; have := HLT.out; omega
      case rel => exact ⟨j + 1, _, by rw [HWJ.out], ⟨by have := HJ.out; have := HLT.out; omega⟩, ⟨by rw [← HZ.out]; exact Kd.R_mono (Kd.R_far (p := ⟨gb, 4, none⟩) (Kd.R_types HO.out BK.out (by decide)) (fun _ hk => hk.2) _) (fun _ _ => trivial)⟩, ⟨Kd.R_mono (Kd.R_far (p := ⟨gb, 4, none⟩) (Kd.R_types HR.out BK.out (by decide)) (fun _ hk => hk.2) _) (fun _ _ => trivial)⟩, ⟨blk_far BZ.out NB.out _⟩, ⟨blk_put BK.out 4 _ rfl⟩, ⟨below_set HB.out GE.out⟩⟩
    · have dq : decide ((j : Int) < (rs.length : Int)) = false := decide_eq_false (by omega)
      have dq2 : decide (j < rs.length) = false := decide_eq_false hj
      have hje : rs.take j = rs := List.take_of_length_le (by omega)
      rw [hje] at HO
      clear hje hj
      go_wp2
      go_end0
      exact ⟨rfl, u, ⟨HB.out, BZ.out, BK.out, HO.out⟩⟩
end Go.Proofs.Ytbhmoodfninbjaa.QFnExactPlainFont
