/- (*impl.face).glyph, walked: how wide a code point is. -/
import Derived.Test.YtiinihponcojkaaShapeW
namespace Go.Proofs.Ytiinihponcojkaa.QFnExactAdvance
open Go Go.RowKit Go.Proofs.YtiinihponcojkaaV.PrintWords Go.Proofs.YtiinihponcojkaaV.PrintLast Go.Proofs.YtiinihponcojkaaV.PrintMore Go.Proofs.Ytiinihponcojkaa.MapObj Go.Proofs.Ytiinihponcojkaa.MapKey
set_option linter.unusedVariables false
set_option linter.unusedSimpArgs false

def findG (l : List S79) (d r : Int) : Int := ((l.find? (fun x => decide (x.f0 = r))).map (fun x => x.f1)).getD d
def glyphI (l : List S79) (d r : Int) : Int := if wrap64 (wrap32 r) = r then (mget (hWide l l.length) (wrap32 r)).getD d else findG l d r
theorem wide_run {w' : World} {a : Operand → Value} {o : Oper} {l4 : List S79} {gw : Nat} {x : Int} (m y : Operand) (hop : o.op = Op.lookup 98 m y true) (hm : a m = .map (some gw)) (hx : a y = .int .i32 x) (hk : ok32 x) (hb : w'.heap[gw]? = some (oWide l4 l4.length)) (r : Value) (b : Bool)
    (hr : ((mget (hWide l4 l4.length) x).map (Value.int .i64)).getD (.int .i64 0) = r) (hbb : (mget (hWide l4 l4.length) x).isSome = b) : (execOp a o).run Try.prog w' = .ok (.value (.tuple #[r, .bool b])) w' := by
  have e := run_get (et := 3) (ev := Value.int .i64) Try.underlying98 keys_32 (z := .int .i64 0) (w := w') (by kernel_rfl) (hWide_ok l4 _) hb hk true
  unfold execOp
  simp [hop, hm, hx, e, hr, hbb, Result.andThen]
set_option maxHeartbeats 8000000 in
set_option maxRecDepth 100000 in
theorem glyph_calls (w W : World) (a b c d : Int) (A4 : Option Addr) (c4 : Nat) (q4 q5 q6 : Value) (l4 : List S79) (l5 : List S81) (l6 : List S84) (gf gw ge gl : Nat) (r : Int) (h4 : q4 = .slice A4 l4.length c4)
    (hF : Face W a b c d q4 q5 q6 l4 l5 l6 gf gw ge gl) (hr : Kd.C k79 w A4 l4.length l4) (hw : Below w.heap.size w W) (hl : l4.length ≤ 1048576) :
    Calls Try.prog 71 #[.pointer (some ⟨gf, 0, none⟩), .int .i64 r] W fun e w' => e = .returned (.int .i64 (glyphI l4 d r)) ∧ Below W.heap.size W w' := by
  have HF := Aside0.mk hF
  have HR := Aside0.mk hr
  have HW := Aside0.mk hw
  have HL := Aside0.mk hl
  have H4 := Aside0.mk h4
  have hu101 := Try.underlying101
  clear hF hr hw hl h4
  by_cases hcv : wrap64 (wrap32 r) = r
  · have hcb : (wrap64 (wrap32 r) == r) = true := beq_iff_eq.mpr hcv
    have e : glyphI l4 d r = (mget (hWide l4 l4.length) (wrap32 r)).getD d := if_pos hcv
    rw [e]
    clear e hcv
    cases hl : mget (hWide l4 l4.length) (wrap32 r) with
    | none =>
      have HLG := Aside0.mk hl
      clear hl
      go_enter Try.func71, Try.ntmps71
      have HB := Aside0.mk (Below.refl W.heap.size W)
      have zm : W.cell? ⟨gf, 7, none⟩ = some (.map (some gw)) := (blk_cell HF.out.blk 7).trans rfl
      have z3 : W.cell? ⟨gf, 3, none⟩ = some (.int .i64 d) := (blk_cell HF.out.blk 3).trans rfl
      go_wp2_with (first | (at_lookup; (refine kget_ok_event (et := 3) (ek := Value.int .i32) (ev := Value.int .i64) (ok := ok32) (g := gw) (hist := hWide l4 l4.length) keys_32 rfl _ _ rfl rfl (wrap32 r) (ok32_wrap r) ?hxn Try.underlying98 (z := .int .i64 0) ?hzn (hWide_ok l4 _) ?hmn (.int .i64 0) false ?hrn ?hbn ?_; (case hxn => first | rfl | exact congrArg (Value.int .i32) (i32_w r)); (case hzn => kernel_rfl); (case hmn => exact HF.out.wide); (case hrn => rw [HLG.out]; rfl); (case hbn => rw [HLG.out]; rfl))))
      go_ret
      exact ⟨rfl, HB.out⟩
    | some v =>
      have HLG := Aside0.mk hl
      clear hl
      go_enter Try.func71, Try.ntmps71
      have HB := Aside0.mk (Below.refl W.heap.size W)
      have zm : W.cell? ⟨gf, 7, none⟩ = some (.map (some gw)) := (blk_cell HF.out.blk 7).trans rfl
      go_wp2_with (first | (at_lookup; (refine kget_ok_event (et := 3) (ek := Value.int .i32) (ev := Value.int .i64) (ok := ok32) (g := gw) (hist := hWide l4 l4.length) keys_32 rfl _ _ rfl rfl (wrap32 r) (ok32_wrap r) ?hxs Try.underlying98 (z := .int .i64 0) ?hzs (hWide_ok l4 _) ?hms (.int .i64 v) true ?hrs ?hbs ?_; (case hxs => first | rfl | exact congrArg (Value.int .i32) (i32_w r)); (case hzs => kernel_rfl); (case hms => exact HF.out.wide); (case hrs => rw [HLG.out]; rfl); (case hbs => rw [HLG.out]; rfl))))
      go_ret
      exact ⟨rfl, HB.out⟩
  · have hcb : (wrap64 (wrap32 r) == r) = false := beq_eq_false_iff_ne.mpr hcv
    have e : glyphI l4 d r = findG l4 d r := if_neg hcv
    rw [e]
    clear e hcv
    have z4 : W.cell? ⟨gf, 4, none⟩ = some (.slice A4 l4.length c4) := (blk_cell HF.out.blk 4).trans (by rw [← H4.out]; rfl)
    go_enter Try.func71, Try.ntmps71
    go_wp2
    clear z4
    go_loopg [37] l4.length (fun kq v37 w' => ∃ (j : Nat), v37 = .int .i64 j ∧ Aside0 (kq + j = l4.length) ∧ Aside0 (findG (l4.drop j) d r = findG l4 d r) ∧ Aside0 (Below W.heap.size W w'))
    case atStart => exact ⟨0, rfl, ⟨by omega⟩, ⟨rfl⟩, ⟨Below.refl _ _⟩⟩
    case round =>
      obtain ⟨j, rfl, HJ, HE, HB⟩ := hrel
      by_cases hj : j < l4.length
      · have dj : decide ((j : Int) < (l4.length : Int)) = true := decide_eq_true (by omega)
        have dj2 : decide (j < l4.length) = true := decide_eq_true hj
        have p5 : (0 ≤ (j : Int)) = True := eq_true (by omega)
        have q5 : ((j : Int) < (l4.length : Int)) = True := eq_true (by omega)
        have hwj : wrap64 ((j : Int) + 1) = (j : Int) + 1 := by have := HL.out; unfold wrap64; omega
        obtain ⟨ad, eA, hx0, hx1⟩ := at_T79 HR.out (j : Int) (by omega) (by omega)
        cases eA
        simp only [Int.toNat_natCast] at hx0 hx1
        replace hx0 := ((below_then HW.out HW.out.size HB.out).cell (World.block_lt_of_cell? w _ hx0)).trans hx0
        replace hx1 := ((below_then HW.out HW.out.size HB.out).cell (World.block_lt_of_cell? w _ hx1)).trans hx1
        obtain ⟨x0, ex0⟩ : ∃ x, x = (rd_T79 l4 (j : Nat)).f0 := ⟨_, rfl⟩
        obtain ⟨x1, ex1⟩ : ∃ x, x = (rd_T79 l4 (j : Nat)).f1 := ⟨_, rfl⟩
        rw [← ex0] at hx0
        rw [← ex1] at hx1
        have hdr : l4.drop j = rd_T79 l4 (j : Nat) :: l4.drop (j + 1) := by
          rw [List.drop_eq_getElem_cons hj]
          congr 1
          unfold rd_T79
          rw [Int.toNat_natCast, List.getD_eq_getElem?_getD, List.getElem?_eq_getElem hj]
          rfl
        have HD := Aside0.mk hdr
        have EX0 := Aside0.mk ex0
        have EX1 := Aside0.mk ex1
        have HJJ := Aside0.mk hj
        clear hj ex0 ex1 hdr
        by_cases hc : x0 = r
        · have hcb2 : (x0 == r) = true := beq_iff_eq.mpr hc
          have HC := Aside0.mk hc
          clear hc
          go_wp2_with (first
            | ((with_reducible refine gate_dst (N := 8) rfl ?_); refine box_event ?hg (N := 8) ?hd (cs := #[.int .i64 0, .int .i64 0]) (t := 79) ?hr ?_; (case hd => rfl); (case hg => rfl); (case hr => first | (go_simp; done) | (go_simp; rfl)); intro gx hg w6 hbox hb; have GX := Aside0.mk (show W.heap.size ≤ gx from (by rw [hg]; exact HB.out.size)); have HB6 := Aside0.mk (below_step HB.out hb); have HBG := Aside0.mk hbox; clear hg hbox hb HB hx0 hx1)
            | ((with_reducible refine gate_store (t := 79) (p := 8) rfl ?_); have y0 : w6.cell? ⟨gx, 0, none⟩ = some (.int .i64 0) := (blk_cell HBG.out 0).trans rfl; have y1 : w6.cell? ⟨gx, 1, none⟩ = some (.int .i64 0) := (blk_cell HBG.out 1).trans rfl; have u0 := blk_frozen HBG.out 0; have u1 := blk_frozen HBG.out 1; refine store_event (t := 79) (p := 8) (v := ?voa) (w1 := ((w6.setCell ⟨gx, 0, none⟩ (.int .i64 x0)).setCell ⟨gx, 1, none⟩ (.int .i64 x1))) ?hg ?ho ?hn ?hr ?_; (case ho => rfl); (case hg => rfl); (case hn => rfl); (case hr => first | (go_simp; done) | (go_simp; rfl)); intro w7 hw; have HB7 := Aside0.mk (show Below W.heap.size W w7 from by rw [hw]; exact below_set (below_set HB6.out GX.out) GX.out); have HBG7 := Aside0.mk (show w7.heap[gx]? = some (.cells #[.int .i64 x0, .int .i64 x1] 79 (0, 0)) from by rw [hw]; exact blk_put (blk_put HBG.out 0 _ rfl) 1 _ rfl); clear hw HB6 HBG y0 y1 u0 u1; have t0 : w7.cell? ⟨gx, 0, none⟩ = some (.int .i64 x0) := (blk_cell HBG7.out 0).trans rfl; have t1 : w7.cell? ⟨gx, 1, none⟩ = some (.int .i64 x1) := (blk_cell HBG7.out 1).trans rfl))
          go_ret
          refine ⟨?_, HB7.out⟩
          rw [← HE.out, HD.out]
          unfold findG
          rw [List.find?_cons, decide_eq_true (show (rd_T79 l4 (j : Nat)).f0 = r from by rw [← EX0.out]; exact HC.out), EX1.out]
          rfl
        · have hcb2 : (x0 == r) = false := beq_eq_false_iff_ne.mpr hc
          have HC := Aside0.mk hc
          clear hc
          go_wp2_with (first
            | ((with_reducible refine gate_dst (N := 8) rfl ?_); refine box_event ?hg (N := 8) ?hd (cs := #[.int .i64 0, .int .i64 0]) (t := 79) ?hr ?_; (case hd => rfl); (case hg => rfl); (case hr => first | (go_simp; done) | (go_simp; rfl)); intro gx hg w6 hbox hb; have GX := Aside0.mk (show W.heap.size ≤ gx from (by rw [hg]; exact HB.out.size)); have HB6 := Aside0.mk (below_step HB.out hb); have HBG := Aside0.mk hbox; clear hg hbox hb HB hx0 hx1)
            | ((with_reducible refine gate_store (t := 79) (p := 8) rfl ?_); have y0 : w6.cell? ⟨gx, 0, none⟩ = some (.int .i64 0) := (blk_cell HBG.out 0).trans rfl; have y1 : w6.cell? ⟨gx, 1, none⟩ = some (.int .i64 0) := (blk_cell HBG.out 1).trans rfl; have u0 := blk_frozen HBG.out 0; have u1 := blk_frozen HBG.out 1; refine store_event (t := 79) (p := 8) (v := ?vob) (w1 := ((w6.setCell ⟨gx, 0, none⟩ (.int .i64 x0)).setCell ⟨gx, 1, none⟩ (.int .i64 x1))) ?hg ?ho ?hn ?hr ?_; (case ho => rfl); (case hg => rfl); (case hn => rfl); (case hr => first | (go_simp; done) | (go_simp; rfl)); intro w7 hw; have HB7 := Aside0.mk (show Below W.heap.size W w7 from by rw [hw]; exact below_set (below_set HB6.out GX.out) GX.out); have HBG7 := Aside0.mk (show w7.heap[gx]? = some (.cells #[.int .i64 x0, .int .i64 x1] 79 (0, 0)) from by rw [hw]; exact blk_put (blk_put HBG.out 0 _ rfl) 1 _ rfl); clear hw HB6 HBG y0 y1 u0 u1; have t0 : w7.cell? ⟨gx, 0, none⟩ = some (.int .i64 x0) := (blk_cell HBG7.out 0).trans rfl; have t1 : w7.cell? ⟨gx, 1, none⟩ = some (.int .i64 x1) := (blk_cell HBG7.out 1).trans rfl))
          go_roundg (gk - 1)
          case measure => have := HJ.out; have := HJJ.out; omega
          case rel => exact ⟨j + 1, by rw [hwj]; rfl, ⟨by have := HJ.out; have := HJJ.out; omega⟩, ⟨by rw [← HE.out, HD.out]; unfold findG; rw [List.find?_cons, decide_eq_false (show ¬ (rd_T79 l4 (j : Nat)).f0 = r from by rw [← EX0.out]; exact HC.out)]⟩, HB7⟩
      · have dj : decide ((j : Int) < (l4.length : Int)) = false := decide_eq_false (by omega)
        have dj2 : decide (j < l4.length) = false := decide_eq_false hj
        have hjl : j = l4.length := by have := HJ.out; omega
        rw [hjl, List.drop_length] at HE
        clear hj hjl
        have z3 : wr.cell? ⟨gf, 3, none⟩ = some (.int .i64 d) := (blk_cell (HF.out.below HB.out).blk 3).trans rfl
        go_wp2
        go_ret
        exact ⟨by rw [← HE.out]; rfl, HB.out⟩
end Go.Proofs.Ytiinihponcojkaa.QFnExactAdvance
