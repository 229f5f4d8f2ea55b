/- (*impl.garden).spotIn. -/
import Derived.Test.YtbogfagafdokeaaAtI
namespace Go.Proofs.Ytbogfagafdokeaa.QFnExactRangeText
open Go Go.RowKit Go.Proofs.YtbogfagafdokeaaV.PrintWords Go.Proofs.YtbogfagafdokeaaV.PrintLast Go.Proofs.YtbogfagafdokeaaV.PrintMore Go.Proofs.Ytbogfagafdokeaa.TreeIx Go.Proofs.Ytbogfagafdokeaa.MapObj
set_option linter.unusedVariables false
set_option linter.unusedSimpArgs false
def most (l:List S59) (j:Nat):Int:=if (rd_T59 l (j:Nat)).f1=3 then ((rd_T59 l (j:Nat)).f4.size:Int) else (kdOf l j:Int)
def spotB (l:List S59) (id at':Int):Bool:=match atI l id with
 |none=>false
 |some j=>decide (0≤at') && decide (at'≤most l j)
set_option maxHeartbeats 4000000 in
set_option maxRecDepth 100000 in
theorem spotIn_calls (w0 W:World) (l:List S59) (va:Nat→Value) (G:Gh) (gg gm:Nat) (id at':Int) (hG:Gard w0 W l va G gg gm) :
  Calls Try.prog 20 #[.pointer (some ⟨gg,0,none⟩),.agg #[.int .i64 id,.int .i64 at']] W fun e w'=>e=.returned (.bool (spotB l id at'))∧Below W.heap.size W w':=by
 have HG:=Aside0.mk hG
 clear hG
 have hcg:W.cell? ⟨gg,1,none⟩=some (.map (some gm)):=(blk_cell HG.out.blk 1).trans rfl
 cases ha:atI l id with
 |none=>
  have hget:((mget (hist l G.b l.length) id).map ptr).getD (.pointer none)=.pointer none:=by rw [mget_at];show (((atI l id).map G.b).map ptr).getD _=_;rw [ha];rfl
  have hs:spotB l id at'=false:=by unfold spotB;rw [ha]
  rw [hs]
  have HH:=Aside0.mk hget
  clear hget hs ha
  go_enter Try.func20,Try.ntmps20
  go_wp2_with (first
   |((with_reducible refine gate_dst (N:=3) rfl ?_);refine box_event ?hg (N:=3) ?hd (cs:=#[.int .i64 id,.int .i64 at']) (t:=33) ?hr ?_;(case hd=>rfl);(case hg=>rfl);(case hr=>first|(go_simp;done)|(go_simp;rfl));intro gb hg w1 hbox hb1;have hz0:w1.cell? ⟨gb,0,none⟩=some (.int .i64 id):=(blk_cell hbox 0).trans rfl;have hz1:w1.cell? ⟨gb,1,none⟩=some (.int .i64 at'):=(blk_cell hbox 1).trans rfl;have hcg1:w1.cell? ⟨gg,1,none⟩=some (.map (some gm)):=pw_cell_below hb1 hcg;have HB1:=Aside0.mk hb1;clear hg hbox hb1 hcg))
  go_still_tail 6,(by kernel_rfl)
  change wpList _ _ _ _ _ w1.drew
  have HB2:=Aside0.mk (below_drew1 HB1.out)
  have hm2:=Aside0.mk (show w1.drew.heap[gm]?=some (gmap l G.b l.length) from blk_below HG.out.map (below_drew1 HB1.out))
  replace hz1:w1.drew.cell? ⟨gb,1,none⟩=some (.int .i64 at'):=hz1
  clear hz0 hcg1 HB1
  generalize w1.drew=w2 at HB2 hm2 hz1 ⊢
  go_wp2_with (first
   |(at_lookup;(refine get_event (kt:=3) (et:=72) (d:=.int .i64) (ek:=Value.int .i64) (ev:=ptr) (g:=gm) (hist:=hist l G.b l.length) rfl _ _ rfl rfl id rfl Try.underlying76 Try.underlying3 (fun _=>rfl) (vint_inj .i64) (z:=.pointer none) ?hz ?hm (.pointer none) HH.out ?_;(case hz=>kernel_rfl);(case hm=>exact hm2.out))))
  go_ret
  exact ⟨rfl,HB2.out⟩
 |some j=>
  obtain ⟨hj,hid⟩:=at__lt ha
  have hget:((mget (hist l G.b l.length) id).map ptr).getD (.pointer none)=.pointer (some ⟨G.b j,0,none⟩):=by rw [mget_at];show (((atI l id).map G.b).map ptr).getD _=_;rw [ha];rfl
  have hs:spotB l id at'=(decide (0≤at') && decide (at'≤most l j)):=by unfold spotB;rw [ha]
  obtain ⟨Ak,ck,ek⟩:=Kd.R_slice (show kp.R 72 W w0.heap.size _ (G.v j) _ from HG.out.gar.row j hj)
  rw [List.length_map,(HG.out.gar.done j hj).1] at ek
  have HH:=Aside0.mk hget
  clear hget
  by_cases h0:at'<0
  ·have hs2:spotB l id at'=false:=by rw [hs,decide_eq_false (by omega)];rfl
   rw [hs2]
   have d0:decide (at'<0)=true:=decide_eq_true h0
   clear hs hs2 ha hid h0
   go_enter Try.func20,Try.ntmps20
   go_wp2_with (first
    |((with_reducible refine gate_dst (N:=3) rfl ?_);refine box_event ?hg (N:=3) ?hd (cs:=#[.int .i64 id,.int .i64 at']) (t:=33) ?hr ?_;(case hd=>rfl);(case hg=>rfl);(case hr=>first|(go_simp;done)|(go_simp;rfl));intro gb hg w1 hbox hb1;have hz0:w1.cell? ⟨gb,0,none⟩=some (.int .i64 id):=(blk_cell hbox 0).trans rfl;have hz1:w1.cell? ⟨gb,1,none⟩=some (.int .i64 at'):=(blk_cell hbox 1).trans rfl;have hcg1:w1.cell? ⟨gg,1,none⟩=some (.map (some gm)):=pw_cell_below hb1 hcg;have HB1:=Aside0.mk hb1;clear hg hbox hb1 hcg))
   go_still_tail 6,(by kernel_rfl)
   change wpList _ _ _ _ _ w1.drew
   have HB2:=Aside0.mk (below_drew1 HB1.out)
   have hm2:=Aside0.mk (show w1.drew.heap[gm]?=some (gmap l G.b l.length) from blk_below HG.out.map (below_drew1 HB1.out))
   have htw:=blk_below (HG.out.gar.tw j hj) (below_drew1 HB1.out)
   have hk1:w1.drew.cell? ⟨G.b j,1,none⟩=some (.int .i64 (rd_T59 l (j:Nat)).f1):=(blk_cell htw 1).trans rfl
   have hk4:w1.drew.cell? ⟨G.b j,4,none⟩=some (.string (rd_T59 l (j:Nat)).f4):=(blk_cell htw 4).trans rfl
   have hk6:w1.drew.cell? ⟨G.b j,6,none⟩=some (.slice Ak (kdOf l j) ck):=((blk_cell htw 6).trans (show some (G.v j)=_ from by rw [ek]))
   clear htw
   replace hz1:w1.drew.cell? ⟨gb,1,none⟩=some (.int .i64 at'):=hz1
   clear hz0 hcg1 HB1
   generalize w1.drew=w2 at HB2 hm2 hz1 hk1 hk4 hk6 ⊢
   go_wp2_with (first
    |(at_lookup;(refine get_event (kt:=3) (et:=72) (d:=.int .i64) (ek:=Value.int .i64) (ev:=ptr) (g:=gm) (hist:=hist l G.b l.length) rfl _ _ rfl rfl id rfl Try.underlying76 Try.underlying3 (fun _=>rfl) (vint_inj .i64) (z:=.pointer none) ?hz ?hm (.pointer (some ⟨G.b j,0,none⟩)) HH.out ?_;(case hz=>kernel_rfl);(case hm=>exact hm2.out))))
   go_ret
   exact ⟨rfl,HB2.out⟩
  ·have d0:decide (at'<0)=false:=decide_eq_false h0
   have hs2:spotB l id at'=decide (at'≤most l j):=by rw [hs,decide_eq_true (show 0≤at' by omega)];rfl
   rw [hs2]
   by_cases h3:(rd_T59 l (j:Nat)).f1=3
   ·have hm:most l j=((rd_T59 l (j:Nat)).f4.size:Int):=if_pos h3
    rw [hm]
    have b3:((rd_T59 l (j:Nat)).f1==3)=true:=beq_iff_eq.mpr h3
    clear hs hs2 ha hid h0 hm h3
    go_enter Try.func20,Try.ntmps20
    go_wp2_with (first
     |((with_reducible refine gate_dst (N:=3) rfl ?_);refine box_event ?hg (N:=3) ?hd (cs:=#[.int .i64 id,.int .i64 at']) (t:=33) ?hr ?_;(case hd=>rfl);(case hg=>rfl);(case hr=>first|(go_simp;done)|(go_simp;rfl));intro gb hg w1 hbox hb1;have hz0:w1.cell? ⟨gb,0,none⟩=some (.int .i64 id):=(blk_cell hbox 0).trans rfl;have hz1:w1.cell? ⟨gb,1,none⟩=some (.int .i64 at'):=(blk_cell hbox 1).trans rfl;have hcg1:w1.cell? ⟨gg,1,none⟩=some (.map (some gm)):=pw_cell_below hb1 hcg;have HB1:=Aside0.mk hb1;clear hg hbox hb1 hcg))
    go_still_tail 6,(by kernel_rfl)
    change wpList _ _ _ _ _ w1.drew
    have HB2:=Aside0.mk (below_drew1 HB1.out)
    have hm2:=Aside0.mk (show w1.drew.heap[gm]?=some (gmap l G.b l.length) from blk_below HG.out.map (below_drew1 HB1.out))
    have htw:=blk_below (HG.out.gar.tw j hj) (below_drew1 HB1.out)
    have hk1:w1.drew.cell? ⟨G.b j,1,none⟩=some (.int .i64 (rd_T59 l (j:Nat)).f1):=(blk_cell htw 1).trans rfl
    have hk4:w1.drew.cell? ⟨G.b j,4,none⟩=some (.string (rd_T59 l (j:Nat)).f4):=(blk_cell htw 4).trans rfl
    have hk6:w1.drew.cell? ⟨G.b j,6,none⟩=some (.slice Ak (kdOf l j) ck):=((blk_cell htw 6).trans (show some (G.v j)=_ from by rw [ek]))
    clear htw
    replace hz1:w1.drew.cell? ⟨gb,1,none⟩=some (.int .i64 at'):=hz1
    clear hz0 hcg1 HB1
    generalize w1.drew=w2 at HB2 hm2 hz1 hk1 hk4 hk6 ⊢
    go_wp2_with (first
     |(at_lookup;(refine get_event (kt:=3) (et:=72) (d:=.int .i64) (ek:=Value.int .i64) (ev:=ptr) (g:=gm) (hist:=hist l G.b l.length) rfl _ _ rfl rfl id rfl Try.underlying76 Try.underlying3 (fun _=>rfl) (vint_inj .i64) (z:=.pointer none) ?hz ?hm (.pointer (some ⟨G.b j,0,none⟩)) HH.out ?_;(case hz=>kernel_rfl);(case hm=>exact hm2.out))))
    go_quiet (fail)
    go_wp2
    go_ret
    exact ⟨rfl,pw_below_drewN HB2.out nq⟩
   ·have hm:most l j=(kdOf l j:Int):=if_neg h3
    rw [hm]
    have b3:((rd_T59 l (j:Nat)).f1==3)=false:=beq_eq_false_iff_ne.mpr h3
    clear hs hs2 ha hid h0 hm h3
    go_enter Try.func20,Try.ntmps20
    go_wp2_with (first
     |((with_reducible refine gate_dst (N:=3) rfl ?_);refine box_event ?hg (N:=3) ?hd (cs:=#[.int .i64 id,.int .i64 at']) (t:=33) ?hr ?_;(case hd=>rfl);(case hg=>rfl);(case hr=>first|(go_simp;done)|(go_simp;rfl));intro gb hg w1 hbox hb1;have hz0:w1.cell? ⟨gb,0,none⟩=some (.int .i64 id):=(blk_cell hbox 0).trans rfl;have hz1:w1.cell? ⟨gb,1,none⟩=some (.int .i64 at'):=(blk_cell hbox 1).trans rfl;have hcg1:w1.cell? ⟨gg,1,none⟩=some (.map (some gm)):=pw_cell_below hb1 hcg;have HB1:=Aside0.mk hb1;clear hg hbox hb1 hcg))
    go_still_tail 6,(by kernel_rfl)
    change wpList _ _ _ _ _ w1.drew
    have HB2:=Aside0.mk (below_drew1 HB1.out)
    have hm2:=Aside0.mk (show w1.drew.heap[gm]?=some (gmap l G.b l.length) from blk_below HG.out.map (below_drew1 HB1.out))
    have htw:=blk_below (HG.out.gar.tw j hj) (below_drew1 HB1.out)
    have hk1:w1.drew.cell? ⟨G.b j,1,none⟩=some (.int .i64 (rd_T59 l (j:Nat)).f1):=(blk_cell htw 1).trans rfl
    have hk4:w1.drew.cell? ⟨G.b j,4,none⟩=some (.string (rd_T59 l (j:Nat)).f4):=(blk_cell htw 4).trans rfl
    have hk6:w1.drew.cell? ⟨G.b j,6,none⟩=some (.slice Ak (kdOf l j) ck):=((blk_cell htw 6).trans (show some (G.v j)=_ from by rw [ek]))
    clear htw
    replace hz1:w1.drew.cell? ⟨gb,1,none⟩=some (.int .i64 at'):=hz1
    clear hz0 hcg1 HB1
    generalize w1.drew=w2 at HB2 hm2 hz1 hk1 hk4 hk6 ⊢
    go_wp2_with (first
     |(at_lookup;(refine get_event (kt:=3) (et:=72) (d:=.int .i64) (ek:=Value.int .i64) (ev:=ptr) (g:=gm) (hist:=hist l G.b l.length) rfl _ _ rfl rfl id rfl Try.underlying76 Try.underlying3 (fun _=>rfl) (vint_inj .i64) (z:=.pointer none) ?hz ?hm (.pointer (some ⟨G.b j,0,none⟩)) HH.out ?_;(case hz=>kernel_rfl);(case hm=>exact hm2.out))))
    go_quiet (fail)
    go_wp2
    go_ret
    exact ⟨rfl,pw_below_drewN HB2.out nq⟩
end Go.Proofs.Ytbogfagafdokeaa.QFnExactRangeText
