/- Written by a program (wip/tools/own_print.py) out of the walk that the kit's printer made; turned where it fell. -/
-- PRINTED by print.py (a twelfth state) out of the translation. Not trusted: Lean checks it.
import Derived.Test.YtiinihponcojkaaQFnExactAdvancex0
import Derived.Test.YtiinihponcojkaaQFnExactAdvancex9
import Derived.Test.YtiinihponcojkaaQFnExactAdvancex10
import Derived.Test.YtiinihponcojkaaQFnExactAdvancex11
namespace Go.Proofs.Ytiinihponcojkaa.QFnExactAdvance
open Go.RowKit Go.Proofs.YtiinihponcojkaaV.PrintWords Go.Proofs.YtiinihponcojkaaV.PrintLast Go.Proofs.YtiinihponcojkaaV.PrintMore
attribute [local go_sem] max2_int min2_int max_two min_two max_three min_three max_four min_four   -- for this text's walks alone
set_option linter.unusedVariables false
set_option linter.unusedSimpArgs false
private theorem blkf7 {w:World} {g:Nat} {t:TypeId} {c0 c1 c2 c3 c4 c5 c6:Value} (h:w.heap[g]?=some (.cells #[c0,c1,c2,c3,c4,c5,c6] t (0,0))):w.cell? ⟨g,0,none⟩=some c0∧w.cell? ⟨g,1,none⟩=some c1∧w.cell? ⟨g,2,none⟩=some c2∧w.cell? ⟨g,3,none⟩=some c3∧w.cell? ⟨g,4,none⟩=some c4∧w.cell? ⟨g,5,none⟩=some c5∧w.cell? ⟨g,6,none⟩=some c6∧w.frozen? ⟨g,0,none⟩=false∧w.frozen? ⟨g,1,none⟩=false∧w.frozen? ⟨g,2,none⟩=false∧w.frozen? ⟨g,3,none⟩=false∧w.frozen? ⟨g,4,none⟩=false∧w.frozen? ⟨g,5,none⟩=false∧w.frozen? ⟨g,6,none⟩=false:=⟨(blk_cell h 0).trans rfl,(blk_cell h 1).trans rfl,(blk_cell h 2).trans rfl,(blk_cell h 3).trans rfl,(blk_cell h 4).trans rfl,(blk_cell h 5).trans rfl,(blk_cell h 6).trans rfl,blk_frozen h 0,blk_frozen h 1,blk_frozen h 2,blk_frozen h 3,blk_frozen h 4,blk_frozen h 5,blk_frozen h 6⟩
/-! ### impl_FontOk: function 31 -/
mutual
def impl_FontOk.j0:Nat→Bool→Int→Int→Int→Int→List (S79)→List (S81)→List (S84)→Option (Bool)
  |0,_,_,_,_,_,_,_,_=>none
  |k+1,x32,x277000,x277001,x277002,x277003,x277004,x277005,x277006=>if x32=true then (some false) else (impl_FontOk.l0 k x277004 (x277004.length:Int) 0 x277000 x277001 x277002 x277003 x277004 x277005 x277006)
def impl_FontOk.l0:Nat→List (S79)→Int→Int→Int→Int→Int→Int→List (S79)→List (S81)→List (S84)→Option (Bool)
  |0,_,_,_,_,_,_,_,_,_,_=>none
  |k+1,x34,x35,x36,x277000,x277001,x277002,x277003,x277004,x277005,x277006=>if x36<x35 then (if 0≤x36 then (if x36<(x34.length:Int) then ((impl_inMetric.f ((rd_T79 x34 x36).f1)).bind fun t282=>(if t282=true then (impl_FontOk.l0 k x34 x35 (wrap64 (x36+1)) x277000 x277001 x277002 x277003 x277004 x277005 x277006) else (some false))) else (none)) else (none)) else (impl_FontOk.l1 k x277005 (x277005.length:Int) 0 x277000 x277001 x277002 x277003 x277004 x277005 x277006)
def impl_FontOk.l1:Nat→List (S81)→Int→Int→Int→Int→Int→Int→List (S79)→List (S81)→List (S84)→Option (Bool)
  |0,_,_,_,_,_,_,_,_,_,_=>none
  |k+1,x46,x47,x48,x277000,x277001,x277002,x277003,x277004,x277005,x277006=>if x48<x47 then (if 0≤x48 then (if x48<(x46.length:Int) then (if ((rd_T81 x46 x48).f2)<(-10000) then (some false) else (if ((rd_T81 x46 x48).f2) > 10000 then (some false) else (impl_FontOk.l1 k x46 x47 (wrap64 (x48+1)) x277000 x277001 x277002 x277003 x277004 x277005 x277006))) else (none)) else (none)) else ((impl_Glyph.f k x277004 0).bind fun t285=>(if t285=true then ((impl_Kern.f k x277005 0).bind fun t286=>(if t286=true then ((impl_Lig.f k x277006 0).bind fun t287=>(some t287)) else (some false))) else (some false)))
end
def impl_FontOk.f (k:Nat) (a0_0:Int) (a0_1:Int) (a0_2:Int) (a0_3:Int) (l0_4:List (S79)) (l0_5:List (S81)) (l0_6:List (S84)):Option (Bool):=if a0_0<1 then (impl_FontOk.j0 k true a0_0 a0_1 a0_2 a0_3 l0_4 l0_5 l0_6) else (if a0_0 > 10000 then (impl_FontOk.j0 k true a0_0 a0_1 a0_2 a0_3 l0_4 l0_5 l0_6) else ((impl_inMetric.f a0_1).bind fun t277=>(if t277=true then ((impl_inMetric.f a0_2).bind fun t278=>(if t278=true then ((impl_inMetric.f a0_3).bind fun t279=>(impl_FontOk.j0 k (!t279) a0_0 a0_1 a0_2 a0_3 l0_4 l0_5 l0_6)) else (impl_FontOk.j0 k true a0_0 a0_1 a0_2 a0_3 l0_4 l0_5 l0_6))) else (impl_FontOk.j0 k true a0_0 a0_1 a0_2 a0_3 l0_4 l0_5 l0_6))))
theorem impl_FontOk.mono_l:∀ k,(∀ y0 y1 y2 y3 y4 y5 y6 y7,LeO (impl_FontOk.j0 k y0 y1 y2 y3 y4 y5 y6 y7) (impl_FontOk.j0 (k+1) y0 y1 y2 y3 y4 y5 y6 y7))∧(∀ y0 y1 y2 y3 y4 y5 y6 y7 y8 y9,LeO (impl_FontOk.l0 k y0 y1 y2 y3 y4 y5 y6 y7 y8 y9) (impl_FontOk.l0 (k+1) y0 y1 y2 y3 y4 y5 y6 y7 y8 y9))∧(∀ y0 y1 y2 y3 y4 y5 y6 y7 y8 y9,LeO (impl_FontOk.l1 k y0 y1 y2 y3 y4 y5 y6 y7 y8 y9) (impl_FontOk.l1 (k+1) y0 y1 y2 y3 y4 y5 y6 y7 y8 y9))
 |0=>⟨fun _ _ _ _ _ _ _ _ r h=>by simp [impl_FontOk.j0] at h,fun _ _ _ _ _ _ _ _ _ _ r h=>by simp [impl_FontOk.l0] at h,fun _ _ _ _ _ _ _ _ _ _ r h=>by simp [impl_FontOk.l1] at h⟩
 |k+1=>by
  obtain ⟨ih0,ih1,ih2⟩:=impl_FontOk.mono_l k
  refine ⟨?_,?_,?_⟩
  ·intro y0 y1 y2 y3 y4 y5 y6 y7
   unfold impl_FontOk.j0
   repeat' first
  |(with_reducible exact ih0 _ _ _ _ _ _ _ _)
  |(with_reducible exact ih1 _ _ _ _ _ _ _ _ _ _)
  |(with_reducible exact ih2 _ _ _ _ _ _ _ _ _ _)
  |(with_reducible exact impl_Glyph.mono _ _ _)
  |(with_reducible exact impl_Kern.mono _ _ _)
  |(with_reducible exact impl_Lig.mono _ _ _)
  |(with_reducible exact LeO.refl _)
  |(with_reducible exact LeO.none _)
  |(with_reducible refine LeO.ite ?_ ?_)
  |(with_reducible refine LeO.bind ?_ (fun _=>?_))
  |exact ih0 _ _ _ _ _ _ _ _
  |exact ih1 _ _ _ _ _ _ _ _ _ _
  |exact ih2 _ _ _ _ _ _ _ _ _ _
  |exact impl_Glyph.mono _ _ _
  |exact impl_Kern.mono _ _ _
  |exact impl_Lig.mono _ _ _
  |exact LeO.none _
  |refine LeO.ite ?_ ?_
  |refine LeO.bind ?_ (fun _=>?_)
  ·intro y0 y1 y2 y3 y4 y5 y6 y7 y8 y9
   unfold impl_FontOk.l0
   repeat' first
  |(with_reducible exact ih0 _ _ _ _ _ _ _ _)
  |(with_reducible exact ih1 _ _ _ _ _ _ _ _ _ _)
  |(with_reducible exact ih2 _ _ _ _ _ _ _ _ _ _)
  |(with_reducible exact impl_Glyph.mono _ _ _)
  |(with_reducible exact impl_Kern.mono _ _ _)
  |(with_reducible exact impl_Lig.mono _ _ _)
  |(with_reducible exact LeO.refl _)
  |(with_reducible exact LeO.none _)
  |(with_reducible refine LeO.ite ?_ ?_)
  |(with_reducible refine LeO.bind ?_ (fun _=>?_))
  |exact ih0 _ _ _ _ _ _ _ _
  |exact ih1 _ _ _ _ _ _ _ _ _ _
  |exact ih2 _ _ _ _ _ _ _ _ _ _
  |exact impl_Glyph.mono _ _ _
  |exact impl_Kern.mono _ _ _
  |exact impl_Lig.mono _ _ _
  |exact LeO.none _
  |refine LeO.ite ?_ ?_
  |refine LeO.bind ?_ (fun _=>?_)
  ·intro y0 y1 y2 y3 y4 y5 y6 y7 y8 y9
   unfold impl_FontOk.l1
   repeat' first
  |(with_reducible exact ih0 _ _ _ _ _ _ _ _)
  |(with_reducible exact ih1 _ _ _ _ _ _ _ _ _ _)
  |(with_reducible exact ih2 _ _ _ _ _ _ _ _ _ _)
  |(with_reducible exact impl_Glyph.mono _ _ _)
  |(with_reducible exact impl_Kern.mono _ _ _)
  |(with_reducible exact impl_Lig.mono _ _ _)
  |(with_reducible exact LeO.refl _)
  |(with_reducible exact LeO.none _)
  |(with_reducible refine LeO.ite ?_ ?_)
  |(with_reducible refine LeO.bind ?_ (fun _=>?_))
  |exact ih0 _ _ _ _ _ _ _ _
  |exact ih1 _ _ _ _ _ _ _ _ _ _
  |exact ih2 _ _ _ _ _ _ _ _ _ _
  |exact impl_Glyph.mono _ _ _
  |exact impl_Kern.mono _ _ _
  |exact impl_Lig.mono _ _ _
  |exact LeO.none _
  |refine LeO.ite ?_ ?_
  |refine LeO.bind ?_ (fun _=>?_)
theorem impl_FontOk.mono:∀ a0 a1 a2 a3 a4 a5 a6 k,LeO (impl_FontOk.f k a0 a1 a2 a3 a4 a5 a6) (impl_FontOk.f (k+1) a0 a1 a2 a3 a4 a5 a6):=by
 intro a0 a1 a2 a3 a4 a5 a6 k
 obtain ⟨ih0,ih1,ih2⟩:=impl_FontOk.mono_l k
 unfold impl_FontOk.f
 repeat' first
  |(with_reducible exact ih0 _ _ _ _ _ _ _ _)
  |(with_reducible exact ih1 _ _ _ _ _ _ _ _ _ _)
  |(with_reducible exact ih2 _ _ _ _ _ _ _ _ _ _)
  |(with_reducible exact impl_Glyph.mono _ _ _)
  |(with_reducible exact impl_Kern.mono _ _ _)
  |(with_reducible exact impl_Lig.mono _ _ _)
  |(with_reducible exact LeO.refl _)
  |(with_reducible exact LeO.none _)
  |(with_reducible refine LeO.ite ?_ ?_)
  |(with_reducible refine LeO.bind ?_ (fun _=>?_))
  |exact ih0 _ _ _ _ _ _ _ _
  |exact ih1 _ _ _ _ _ _ _ _ _ _
  |exact ih2 _ _ _ _ _ _ _ _ _ _
  |exact impl_Glyph.mono _ _ _
  |exact impl_Kern.mono _ _ _
  |exact impl_Lig.mono _ _ _
  |exact LeO.none _
  |refine LeO.ite ?_ ?_
  |refine LeO.bind ?_ (fun _=>?_)
set_option maxHeartbeats 8000000 in
set_option maxRecDepth 100000 in
theorem impl_FontOk.calls (k:Nat) (a0_0:Int) (a0_1:Int) (a0_2:Int) (a0_3:Int) (A0_4:Option Addr) (c0_4:Nat) (l0_4:List (S79)) (A0_5:Option Addr) (c0_5:Nat) (l0_5:List (S81)) (A0_6:Option Addr) (c0_6:Nat) (l0_6:List (S84)) (r:Bool) (w:World) (hr0_4:Kd.C k79 w A0_4 l0_4.length l0_4) (hc0_4:l0_4.length≤c0_4) (hr0_5:Kd.C k81 w A0_5 l0_5.length l0_5) (hc0_5:l0_5.length≤c0_5) (hr0_6:Kd.C k84 w A0_6 l0_6.length l0_6) (hc0_6:l0_6.length≤c0_6) (h:impl_FontOk.f k a0_0 a0_1 a0_2 a0_3 l0_4 l0_5 l0_6=some r) :
  Calls Try.prog 31 #[.agg #[.int .i64 a0_0,.int .i64 a0_1,.int .i64 a0_2,.int .i64 a0_3,.slice A0_4 l0_4.length c0_4,.slice A0_5 l0_5.length c0_5,.slice A0_6 l0_6.length c0_6]] w fun e w'=>e=.returned (.bool r)∧Below w.heap.size w w':=by
 have hu34:=Try.underlying34
 have hu79:=Try.underlying79
 have hu81:=Try.underlying81
 have HR0_4:=Aside0.mk hr0_4
 have HC0_4:=Aside0.mk hc0_4
 clear hr0_4 hc0_4
 have HR0_5:=Aside0.mk hr0_5
 have HC0_5:=Aside0.mk hc0_5
 clear hr0_5 hc0_5
 have HR0_6:=Aside0.mk hr0_6
 have HC0_6:=Aside0.mk hc0_6
 clear hr0_6 hc0_6
 have HB:=Aside0.mk (Below.refl w.heap.size w)
 have H:(if a0_0<1 then (impl_FontOk.j0 k true a0_0 a0_1 a0_2 a0_3 l0_4 l0_5 l0_6) else (if a0_0 > 10000 then (impl_FontOk.j0 k true a0_0 a0_1 a0_2 a0_3 l0_4 l0_5 l0_6) else ((impl_inMetric.f a0_1).bind fun t277=>(if t277=true then ((impl_inMetric.f a0_2).bind fun t278=>(if t278=true then ((impl_inMetric.f a0_3).bind fun t279=>(impl_FontOk.j0 k (!t279) a0_0 a0_1 a0_2 a0_3 l0_4 l0_5 l0_6)) else (impl_FontOk.j0 k true a0_0 a0_1 a0_2 a0_3 l0_4 l0_5 l0_6))) else (impl_FontOk.j0 k true a0_0 a0_1 a0_2 a0_3 l0_4 l0_5 l0_6)))))=some r:=h
 clear h
 have HC2:=Aside0.mk H
 clear H
 go_enter Try.func31,Try.ntmps31
 go_upto_region 1 with (first|((with_reducible refine gate_dst (N:=1) rfl ?_);refine box_event ?hg (N:=1) ?hd (cs:=#[.int .i64 a0_0,.int .i64 a0_1,.int .i64 a0_2,.int .i64 a0_3,.slice A0_4 l0_4.length c0_4,.slice A0_5 l0_5.length c0_5,.slice A0_6 l0_6.length c0_6]) (t:=34) ?hr ?_;(case hd=>rfl);(case hg=>rfl);(case hr=>first|(go_simp;done)|(go_simp;rfl));intro gb276 hg w3 hbox hb;have n0_:=Aside0.mk (below_step (by repeat (first|(with_reducible first|exact HB.out|apply below_alloc|apply pw_below_drewN|apply below_drew1)|exact HB.out)) hb);have n1_:=Aside0.mk (hbox);have n2_:=Aside0.mk ((by rw [hg];exact (below_size (by repeat (first|(with_reducible first|exact HB.out|apply below_alloc|apply pw_below_drewN|apply below_drew1)|exact HB.out))):w.heap.size≤gb276));have n3_:=Aside0.mk ((by rw [hg];exact (below_size (by repeat (first|(with_reducible first|exact HB.out|apply below_alloc|apply pw_below_drewN|apply below_drew1)|exact HB.out))):w.heap.size≤gb276));clear HB;have HB:=n0_;have BK276:=n1_;have GW276:=n2_;have GE276:=n3_;clear n0_ n1_ n2_ n3_;clear hb hbox hg))
 (try simp only [Act.put,List.setIfInBounds_toArray,List.set_cons_zero,List.set_cons_succ])
 go_cut [32] (fun v32 wc=>∃ (kq:Nat) (x32_1:Bool),v32=.bool x32_1∧Aside0 (impl_FontOk.j0 kq x32_1 a0_0 a0_1 a0_2 a0_3 l0_4 l0_5 l0_6=some r)∧Aside0 (kq≤k)∧Aside0 (wc.heap[gb276]?=some (.cells #[.int .i64 a0_0,.int .i64 a0_1,.int .i64 a0_2,.int .i64 a0_3,(.slice A0_4 l0_4.length c0_4),(.slice A0_5 l0_5.length c0_5),(.slice A0_6 l0_6.length c0_6)] 34 (0,0)))∧Aside0 (Below w.heap.size w wc))
 case first=>
  have H:=HC2.out
  clear HC2
  by_cases c4:a0_0<1
  ·rw [if_pos c4] at H
   have c4b0:decide (a0_0<1)=true:=decide_eq_true c4
   clear c4
   (first|rw [c4b0]|(simp only [i64_w,i32_w];rw [c4b0])|rw [c4b1]|skip)
   have H':=Aside0.mk H
   clear H
   obtain ⟨hcz5_0,hcz5_1,hcz5_2,hcz5_3,hcz5_4,hcz5_5,hcz5_6,hfz5_0,hfz5_1,hfz5_2,hfz5_3,hfz5_4,hfz5_5,hfz5_6⟩:=blkf7 BK276.out
   go_wp2
   go_meet
   case rel=>exact ⟨_,(true),(by first|rfl|(simp;done)|(simp [*];done)),H',⟨by first|omega|exact Nat.le_refl _⟩,⟨by (with_reducible repeat (first|refine blk_drewN ?_ _|refine blk_drew ?_|refine blk_alloc ?_ _));exact BK276.out⟩,⟨by repeat (first|exact HB.out|apply below_alloc|apply pw_below_drewN|apply below_drew1|refine below_set ?_ GE276.out)⟩⟩
  ·rw [if_neg c4] at H
   have c4b0:decide (a0_0<1)=false:=decide_eq_false c4
   clear c4
   (first|rw [c4b0]|(simp only [i64_w,i32_w];rw [c4b0])|rw [c4b1]|skip)
   by_cases c6:a0_0 > 10000
   ·rw [if_pos c6] at H
    have c6b0:decide (10000<a0_0)=true:=decide_eq_true c6
    clear c6
    have H':=Aside0.mk H
    clear H
    obtain ⟨hcz7_0,hcz7_1,hcz7_2,hcz7_3,hcz7_4,hcz7_5,hcz7_6,hfz7_0,hfz7_1,hfz7_2,hfz7_3,hfz7_4,hfz7_5,hfz7_6⟩:=blkf7 BK276.out
    go_wp2
    go_meet
    case rel=>exact ⟨_,(true),(by first|rfl|(simp;done)|(simp [*];done)),H',⟨by first|omega|exact Nat.le_refl _⟩,⟨by (with_reducible repeat (first|refine blk_drewN ?_ _|refine blk_drew ?_|refine blk_alloc ?_ _));exact BK276.out⟩,⟨by repeat (first|exact HB.out|apply below_alloc|apply pw_below_drewN|apply below_drew1|refine below_set ?_ GE276.out)⟩⟩
   ·rw [if_neg c6] at H
    have c6b0:decide (10000<a0_0)=false:=decide_eq_false c6
    clear c6
    replace H:=Option.bind_eq_some_iff.mp H
    obtain ⟨t277,A80,H⟩:=H
    replace H:(if t277=true then ((impl_inMetric.f a0_2).bind fun t278=>(if t278=true then ((impl_inMetric.f a0_3).bind fun t279=>(impl_FontOk.j0 k (!t279) a0_0 a0_1 a0_2 a0_3 l0_4 l0_5 l0_6)) else (impl_FontOk.j0 k true a0_0 a0_1 a0_2 a0_3 l0_4 l0_5 l0_6))) else (impl_FontOk.j0 k true a0_0 a0_1 a0_2 a0_3 l0_4 l0_5 l0_6))=some r:=H
    have A8:=Aside0.mk A80
    clear A80
    by_cases c9:t277=true
    ·subst c9
     have H1:((impl_inMetric.f a0_2).bind fun t278=>(if t278=true then ((impl_inMetric.f a0_3).bind fun t279=>(impl_FontOk.j0 k (!t279) a0_0 a0_1 a0_2 a0_3 l0_4 l0_5 l0_6)) else (impl_FontOk.j0 k true a0_0 a0_1 a0_2 a0_3 l0_4 l0_5 l0_6)))=some r:=by rw [if_pos rfl] at H;exact H
     clear H
     have H:=H1
     clear H1
     replace H:=Option.bind_eq_some_iff.mp H
     obtain ⟨t278,A100,H⟩:=H
     replace H:(if t278=true then ((impl_inMetric.f a0_3).bind fun t279=>(impl_FontOk.j0 k (!t279) a0_0 a0_1 a0_2 a0_3 l0_4 l0_5 l0_6)) else (impl_FontOk.j0 k true a0_0 a0_1 a0_2 a0_3 l0_4 l0_5 l0_6))=some r:=H
     have A10:=Aside0.mk A100
     clear A100
     by_cases c11:t278=true
     ·subst c11
      have H1:((impl_inMetric.f a0_3).bind fun t279=>(impl_FontOk.j0 k (!t279) a0_0 a0_1 a0_2 a0_3 l0_4 l0_5 l0_6))=some r:=by rw [if_pos rfl] at H;exact H
      clear H
      have H:=H1
      clear H1
      replace H:=Option.bind_eq_some_iff.mp H
      obtain ⟨t279,A120,H⟩:=H
      replace H:(impl_FontOk.j0 k (!t279) a0_0 a0_1 a0_2 a0_3 l0_4 l0_5 l0_6)=some r:=H
      have A12:=Aside0.mk A120
      clear A120
      have H':=Aside0.mk H
      clear H
      obtain ⟨hcz13_0,hcz13_1,hcz13_2,hcz13_3,hcz13_4,hcz13_5,hcz13_6,hfz13_0,hfz13_1,hfz13_2,hfz13_3,hfz13_4,hfz13_5,hfz13_6⟩:=blkf7 BK276.out
      go_wp2_with (first|(go_at_call 57;(with_reducible refine (impl_inMetric.calls a0_1 true _ A8.out).mono ?_);rintro e w' ⟨rfl,⟨nd,rfl⟩⟩)|(go_at_call 57;(with_reducible refine (impl_inMetric.calls a0_2 true _ A10.out).mono ?_);rintro e w' ⟨rfl,⟨nd,rfl⟩⟩)|(go_at_call 57;(with_reducible refine (impl_inMetric.calls a0_3 t279 _ A12.out).mono ?_);rintro e w' ⟨rfl,⟨nd,rfl⟩⟩))
      go_meet
      case rel=>exact ⟨_,(!t279),(by first|rfl|(simp;done)|(simp [*];done)),H',⟨by first|omega|exact Nat.le_refl _⟩,⟨by (with_reducible repeat (first|refine blk_drewN ?_ _|refine blk_drew ?_|refine blk_alloc ?_ _));exact BK276.out⟩,⟨by repeat (first|exact HB.out|apply below_alloc|apply pw_below_drewN|apply below_drew1|refine below_set ?_ GE276.out)⟩⟩
     ·replace c11:=Bool.eq_false_iff.mpr c11
      subst c11
      have H1:(impl_FontOk.j0 k true a0_0 a0_1 a0_2 a0_3 l0_4 l0_5 l0_6)=some r:=by rw [if_neg (show ¬ (false=true) by decide)] at H;exact H
      clear H
      have H:=H1
      clear H1
      have H':=Aside0.mk H
      clear H
      obtain ⟨hcz14_0,hcz14_1,hcz14_2,hcz14_3,hcz14_4,hcz14_5,hcz14_6,hfz14_0,hfz14_1,hfz14_2,hfz14_3,hfz14_4,hfz14_5,hfz14_6⟩:=blkf7 BK276.out
      go_wp2_with (first|(go_at_call 57;(with_reducible refine (impl_inMetric.calls a0_1 true _ A8.out).mono ?_);rintro e w' ⟨rfl,⟨nd,rfl⟩⟩)|(go_at_call 57;(with_reducible refine (impl_inMetric.calls a0_2 false _ A10.out).mono ?_);rintro e w' ⟨rfl,⟨nd,rfl⟩⟩))
      go_meet
      case rel=>exact ⟨_,(true),(by first|rfl|(simp;done)|(simp [*];done)),H',⟨by first|omega|exact Nat.le_refl _⟩,⟨by (with_reducible repeat (first|refine blk_drewN ?_ _|refine blk_drew ?_|refine blk_alloc ?_ _));exact BK276.out⟩,⟨by repeat (first|exact HB.out|apply below_alloc|apply pw_below_drewN|apply below_drew1|refine below_set ?_ GE276.out)⟩⟩
    ·replace c9:=Bool.eq_false_iff.mpr c9
     subst c9
     have H1:(impl_FontOk.j0 k true a0_0 a0_1 a0_2 a0_3 l0_4 l0_5 l0_6)=some r:=by rw [if_neg (show ¬ (false=true) by decide)] at H;exact H
     clear H
     have H:=H1
     clear H1
     have H':=Aside0.mk H
     clear H
     obtain ⟨hcz15_0,hcz15_1,hcz15_2,hcz15_3,hcz15_4,hcz15_5,hcz15_6,hfz15_0,hfz15_1,hfz15_2,hfz15_3,hfz15_4,hfz15_5,hfz15_6⟩:=blkf7 BK276.out
     go_wp2_with (first|(go_at_call 57;(with_reducible refine (impl_inMetric.calls a0_1 false _ A8.out).mono ?_);rintro e w' ⟨rfl,⟨nd,rfl⟩⟩))
     go_meet
     case rel=>exact ⟨_,(true),(by first|rfl|(simp;done)|(simp [*];done)),H',⟨by first|omega|exact Nat.le_refl _⟩,⟨by (with_reducible repeat (first|refine blk_drewN ?_ _|refine blk_drew ?_|refine blk_alloc ?_ _));exact BK276.out⟩,⟨by repeat (first|exact HB.out|apply below_alloc|apply pw_below_drewN|apply below_drew1|refine below_set ?_ GE276.out)⟩⟩
 case rest=>
  clear HC2
  try clear c1;try clear p2;try clear c3;try clear c4;try clear c4b0;try clear c6;try clear c6b0;try clear c9;try clear c11;try clear hcz13_0;try clear hcz13_1;try clear hcz13_2;try clear hcz13_3;try clear hcz13_4;try clear hcz13_5;try clear hcz13_6;try clear hcz14_0;try clear hcz14_1;try clear hcz14_2;try clear hcz14_3;try clear hcz14_4;try clear hcz14_5;try clear hcz14_6;try clear hcz15_0;try clear hcz15_1;try clear hcz15_2;try clear hcz15_3;try clear hcz15_4;try clear hcz15_5;try clear hcz15_6;try clear hcz5_0;try clear hcz5_1;try clear hcz5_2;try clear hcz5_3;try clear hcz5_4;try clear hcz5_5;try clear hcz5_6;try clear hcz7_0;try clear hcz7_1;try clear hcz7_2;try clear hcz7_3;try clear hcz7_4;try clear hcz7_5;try clear hcz7_6;try clear hfz13_0;try clear hfz13_1;try clear hfz13_2;try clear hfz13_3;try clear hfz13_4;try clear hfz13_5;try clear hfz13_6;try clear hfz14_0;try clear hfz14_1;try clear hfz14_2;try clear hfz14_3;try clear hfz14_4;try clear hfz14_5;try clear hfz14_6;try clear hfz15_0;try clear hfz15_1;try clear hfz15_2;try clear hfz15_3;try clear hfz15_4;try clear hfz15_5;try clear hfz15_6;try clear hfz5_0;try clear hfz5_1;try clear hfz5_2;try clear hfz5_3;try clear hfz5_4;try clear hfz5_5;try clear hfz5_6;try clear hfz7_0;try clear hfz7_1;try clear hfz7_2;try clear hfz7_3;try clear hfz7_4;try clear hfz7_5;try clear hfz7_6
  obtain ⟨kq,x32_1,rfl,HA,HJ1,BK276,HB⟩:=hcut
  cases kq with
 |zero=>exact absurd HA.out (by simp [impl_FontOk.j0])
 |succ kj1=>
   have H:=HA.out
   clear HA
   simp only [impl_FontOk.j0] at H
   by_cases c16:x32_1=true
   ·subst c16
    have H1:(some false)=some r:=by rw [if_pos rfl] at H;exact H
    clear H
    have H:=H1
    clear H1
    obtain rfl:=Option.some.inj H
    go_wp2
    go_ret
    exact ⟨by first|rfl|(simp [errW_none,errW_some]<;>rfl)|(simp [*,errW_none,errW_some]<;>rfl),by repeat (first|exact HB.out|apply below_alloc|apply pw_below_drewN|apply below_drew1|refine below_set ?_ GE276.out)⟩
   ·replace c16:=Bool.eq_false_iff.mpr c16
    subst c16
    have H1:(impl_FontOk.l0 kj1 l0_4 (l0_4.length:Int) 0 a0_0 a0_1 a0_2 a0_3 l0_4 l0_5 l0_6)=some r:=by rw [if_neg (show ¬ (false=true) by decide)] at H;exact H
    clear H
    have H:=H1
    clear H1
    have H':=Aside0.mk H
    clear H
    obtain ⟨hcz17_0,hcz17_1,hcz17_2,hcz17_3,hcz17_4,hcz17_5,hcz17_6,hfz17_0,hfz17_1,hfz17_2,hfz17_3,hfz17_4,hfz17_5,hfz17_6⟩:=blkf7 BK276.out
    go_wp2
    go_loopg [36] kj1 (fun kq v36 w'=>∃ (x36_2:Int),v36=.int .i64 x36_2∧Aside0 (impl_FontOk.l0 kq l0_4 (l0_4.length:Int) x36_2 a0_0 a0_1 a0_2 a0_3 l0_4 l0_5 l0_6=some r)∧Aside0 (kq≤kj1)∧Aside0 (w'.heap[gb276]?=some (.cells #[.int .i64 a0_0,.int .i64 a0_1,.int .i64 a0_2,.int .i64 a0_3,(.slice A0_4 l0_4.length c0_4),(.slice A0_5 l0_5.length c0_5),(.slice A0_6 l0_6.length c0_6)] 34 (0,0)))∧Aside0 (Below w.heap.size w w'))
    case atStart=>exact ⟨(0),(by first|rfl|(simp;done)|(simp [*];done)),H',⟨Nat.le_refl _⟩,⟨by (with_reducible repeat (first|refine blk_drewN ?_ _|refine blk_drew ?_|refine blk_alloc ?_ _));exact BK276.out⟩,⟨by repeat (first|exact HB.out|apply below_alloc|apply pw_below_drewN|apply below_drew1|refine below_set ?_ GE276.out)⟩⟩
    case round=>
     clear H'
     try clear c1;try clear p2;try clear c3;try clear c4;try clear c4b0;try clear c6;try clear c6b0;try clear c9;try clear c11;try clear c16;try clear hcz13_0;try clear hcz13_1;try clear hcz13_2;try clear hcz13_3;try clear hcz13_4;try clear hcz13_5;try clear hcz13_6;try clear hcz14_0;try clear hcz14_1;try clear hcz14_2;try clear hcz14_3;try clear hcz14_4;try clear hcz14_5;try clear hcz14_6;try clear hcz15_0;try clear hcz15_1;try clear hcz15_2;try clear hcz15_3;try clear hcz15_4;try clear hcz15_5;try clear hcz15_6;try clear hcz17_0;try clear hcz17_1;try clear hcz17_2;try clear hcz17_3;try clear hcz17_4;try clear hcz17_5;try clear hcz17_6;try clear hcz5_0;try clear hcz5_1;try clear hcz5_2;try clear hcz5_3;try clear hcz5_4;try clear hcz5_5;try clear hcz5_6;try clear hcz7_0;try clear hcz7_1;try clear hcz7_2;try clear hcz7_3;try clear hcz7_4;try clear hcz7_5;try clear hcz7_6;try clear hfz13_0;try clear hfz13_1;try clear hfz13_2;try clear hfz13_3;try clear hfz13_4;try clear hfz13_5;try clear hfz13_6;try clear hfz14_0;try clear hfz14_1;try clear hfz14_2;try clear hfz14_3;try clear hfz14_4;try clear hfz14_5;try clear hfz14_6;try clear hfz15_0;try clear hfz15_1;try clear hfz15_2;try clear hfz15_3;try clear hfz15_4;try clear hfz15_5;try clear hfz15_6;try clear hfz17_0;try clear hfz17_1;try clear hfz17_2;try clear hfz17_3;try clear hfz17_4;try clear hfz17_5;try clear hfz17_6;try clear hfz5_0;try clear hfz5_1;try clear hfz5_2;try clear hfz5_3;try clear hfz5_4;try clear hfz5_5;try clear hfz5_6;try clear hfz7_0;try clear hfz7_1;try clear hfz7_2;try clear hfz7_3;try clear hfz7_4;try clear hfz7_5;try clear hfz7_6;try clear p2
     obtain ⟨x36_2,rfl,HA,HK2,BK276,HB⟩:=hrel
     cases gk with
    |zero=>exact absurd HA.out (by simp [impl_FontOk.l0])
    |succ k2=>
      have H:=HA.out
      clear HA
      simp only [impl_FontOk.l0] at H
      by_cases c18:x36_2<(l0_4.length:Int)
      ·rw [if_pos c18] at H
       have c18b0:decide (x36_2<(l0_4.length:Int))=true:=decide_eq_true c18
       clear c18
       by_cases c19:0≤x36_2
       ·rw [if_pos c19] at H
        have c19b0:decide (0≤x36_2)=true:=decide_eq_true c19
        clear c19
        by_cases c20:x36_2<(l0_4.length:Int)
        ·rw [if_pos c20] at H
         have c20b0:decide (x36_2<(l0_4.length:Int))=true:=decide_eq_true c20
         clear c20
         replace H:=Option.bind_eq_some_iff.mp H
         obtain ⟨t282,A210,H⟩:=H
         replace H:(if t282=true then (impl_FontOk.l0 k2 l0_4 (l0_4.length:Int) (wrap64 (x36_2+1)) a0_0 a0_1 a0_2 a0_3 l0_4 l0_5 l0_6) else (some false))=some r:=H
         have A21:=Aside0.mk A210
         clear A210
         by_cases c22:t282=true
         ·subst c22
          have H1:(impl_FontOk.l0 k2 l0_4 (l0_4.length:Int) (wrap64 (x36_2+1)) a0_0 a0_1 a0_2 a0_3 l0_4 l0_5 l0_6)=some r:=by rw [if_pos rfl] at H;exact H
          clear H
          have H:=H1
          clear H1
          have H':=Aside0.mk H
          clear H
          have p280:0≤(x36_2:Int):=of_decide_eq_true (by first|(with_reducible assumption)|assumption)
          have q280:x36_2<(l0_4.length:Int):=of_decide_eq_true (by first|(with_reducible assumption)|assumption)
          obtain ⟨ad280,e280,hx280_0,hx280_1⟩:=at_T79 HR0_4.out x36_2 p280 q280
          cases e280
          replace hx280_0:=pw_cell_below HB.out hx280_0
          replace hx280_1:=pw_cell_below HB.out hx280_1
          replace p280:=eq_true p280
          replace q280:=eq_true q280
          go_wp2_with (first|((with_reducible refine gate_dst (N:=4) rfl ?_);refine box_event ?hg (N:=4) ?hd (cs:=#[.int .i64 0,.int .i64 0]) (t:=79) ?hr ?_;(case hd=>rfl);(case hg=>rfl);(case hr=>first|(go_simp;done)|(go_simp;rfl));intro gb281 hg w23 hbox hb;have n0_:=Aside0.mk (blk_below (g:=gb276) (o:=.cells #[.int .i64 a0_0,.int .i64 a0_1,.int .i64 a0_2,.int .i64 a0_3,.slice (some ad280) l0_4.length c0_4,.slice A0_5 l0_5.length c0_5,.slice A0_6 l0_6.length c0_6] 34 (0,0)) (by (with_reducible repeat (first|refine blk_drewN ?_ _|refine blk_drew ?_|refine blk_alloc ?_ _));exact BK276.out) hb);have n1_:=Aside0.mk (below_step (by repeat (first|exact HB.out|apply below_alloc|apply pw_below_drewN|apply below_drew1|refine below_set ?_ GE276.out)) hb);have n2_:=Aside0.mk (hbox);have n3_:=Aside0.mk ((by rw [hg];exact (below_size (by repeat (first|exact HB.out|apply below_alloc|apply pw_below_drewN|apply below_drew1|refine below_set ?_ GE276.out))):w.heap.size≤gb281));have n4_:=Aside0.mk ((by rw [hg];exact (below_size (by repeat (first|exact HB.out|apply below_alloc|apply pw_below_drewN|apply below_drew1|refine below_set ?_ GE276.out))):w.heap.size≤gb281));have n5_:=Aside0.mk ((by rw [hg];exact Nat.ne_of_lt (blk_lt (g:=gb276) (o:=.cells #[.int .i64 a0_0,.int .i64 a0_1,.int .i64 a0_2,.int .i64 a0_3,.slice (some ad280) l0_4.length c0_4,.slice A0_5 l0_5.length c0_5,.slice A0_6 l0_6.length c0_6] 34 (0,0)) (by (with_reducible repeat (first|refine blk_drewN ?_ _|refine blk_drew ?_|refine blk_alloc ?_ _));exact BK276.out)):gb276≠gb281));have n6_:=Aside0.mk ((by rw [hg];exact Nat.ne_of_gt (blk_lt (g:=gb276) (o:=.cells #[.int .i64 a0_0,.int .i64 a0_1,.int .i64 a0_2,.int .i64 a0_3,.slice (some ad280) l0_4.length c0_4,.slice A0_5 l0_5.length c0_5,.slice A0_6 l0_6.length c0_6] 34 (0,0)) (by (with_reducible repeat (first|refine blk_drewN ?_ _|refine blk_drew ?_|refine blk_alloc ?_ _));exact BK276.out)):gb281≠gb276));clear BK276;clear HB;have BK276:=n0_;have HB:=n1_;have BK281:=n2_;have GW281:=n3_;have GE281:=n4_;have NB276_281:=n5_;have NB281_276:=n6_;clear n0_ n1_ n2_ n3_ n4_ n5_ n6_;clear hb hbox hg;have hnb24:=NB281_276.out;have hnc24:=NB276_281.out;have hcz25_0:w23.cell? ⟨gb281,0,none⟩=some (.int .i64 0):=(blk_cell BK281.out 0).trans rfl;have hcz25_1:w23.cell? ⟨gb281,1,none⟩=some (.int .i64 0):=(blk_cell BK281.out 1).trans rfl;have hfz25_0:=blk_frozen BK281.out 0;have hfz25_1:=blk_frozen BK281.out 1)|((with_reducible refine gate_callee (f:=57) rfl ?_);refine goesL_ (some 42) rfl rfl Try.func57 (by kernel_rfl) rfl #[.int .i64 ((rd_T79 l0_4 x36_2).f1)] rfl (by (try simp only [List.map_toArray,List.map_cons,List.map_nil]);first|done|rfl|(simp only [List.length_drop,List.length_take];rfl)) ?_;(with_reducible refine (impl_inMetric.calls ((rd_T79 l0_4 x36_2).f1) true _ A21.out).mono ?_);rintro e w' ⟨rfl,⟨nd,rfl⟩⟩;refine ⟨_,rfl,?_⟩))
          go_roundg k2
          case measure=>have:=HJ1.out;have:=HK2.out;omega
          case rel=>exact ⟨(wrap64 (x36_2+1)),(by first|rfl|(simp;done)|(simp [*];done)),H',⟨by have:=HJ1.out;have:=HK2.out;omega⟩,⟨by (with_reducible repeat (first|refine blk_drewN ?_ _|refine blk_drew ?_|refine blk_alloc ?_ _));refine blk_far ?_ NB276_281.out _;(with_reducible repeat (first|refine blk_drewN ?_ _|refine blk_drew ?_|refine blk_alloc ?_ _));refine blk_far ?_ NB276_281.out _;(with_reducible repeat (first|refine blk_drewN ?_ _|refine blk_drew ?_|refine blk_alloc ?_ _));exact BK276.out⟩,⟨by repeat (first|exact HB.out|apply below_alloc|apply pw_below_drewN|apply below_drew1|refine below_set ?_ GE276.out|refine below_set ?_ GE281.out)⟩⟩
         ·replace c22:=Bool.eq_false_iff.mpr c22
          subst c22
          have H1:(some false)=some r:=by rw [if_neg (show ¬ (false=true) by decide)] at H;exact H
          clear H
          have H:=H1
          clear H1
          obtain rfl:=Option.some.inj H
          have p280:0≤(x36_2:Int):=of_decide_eq_true (by first|(with_reducible assumption)|assumption)
          have q280:x36_2<(l0_4.length:Int):=of_decide_eq_true (by first|(with_reducible assumption)|assumption)
          obtain ⟨ad280,e280,hx280_0,hx280_1⟩:=at_T79 HR0_4.out x36_2 p280 q280
          cases e280
          replace hx280_0:=pw_cell_below HB.out hx280_0
          replace hx280_1:=pw_cell_below HB.out hx280_1
          replace p280:=eq_true p280
          replace q280:=eq_true q280
          go_wp2_with (first|((with_reducible refine gate_dst (N:=4) rfl ?_);refine box_event ?hg (N:=4) ?hd (cs:=#[.int .i64 0,.int .i64 0]) (t:=79) ?hr ?_;(case hd=>rfl);(case hg=>rfl);(case hr=>first|(go_simp;done)|(go_simp;rfl));intro gb281 hg w26 hbox hb;have n0_:=Aside0.mk (blk_below (g:=gb276) (o:=.cells #[.int .i64 a0_0,.int .i64 a0_1,.int .i64 a0_2,.int .i64 a0_3,.slice (some ad280) l0_4.length c0_4,.slice A0_5 l0_5.length c0_5,.slice A0_6 l0_6.length c0_6] 34 (0,0)) (by (with_reducible repeat (first|refine blk_drewN ?_ _|refine blk_drew ?_|refine blk_alloc ?_ _));exact BK276.out) hb);have n1_:=Aside0.mk (below_step (by repeat (first|exact HB.out|apply below_alloc|apply pw_below_drewN|apply below_drew1|refine below_set ?_ GE276.out)) hb);have n2_:=Aside0.mk (hbox);have n3_:=Aside0.mk ((by rw [hg];exact (below_size (by repeat (first|exact HB.out|apply below_alloc|apply pw_below_drewN|apply below_drew1|refine below_set ?_ GE276.out))):w.heap.size≤gb281));have n4_:=Aside0.mk ((by rw [hg];exact (below_size (by repeat (first|exact HB.out|apply below_alloc|apply pw_below_drewN|apply below_drew1|refine below_set ?_ GE276.out))):w.heap.size≤gb281));have n5_:=Aside0.mk ((by rw [hg];exact Nat.ne_of_lt (blk_lt (g:=gb276) (o:=.cells #[.int .i64 a0_0,.int .i64 a0_1,.int .i64 a0_2,.int .i64 a0_3,.slice (some ad280) l0_4.length c0_4,.slice A0_5 l0_5.length c0_5,.slice A0_6 l0_6.length c0_6] 34 (0,0)) (by (with_reducible repeat (first|refine blk_drewN ?_ _|refine blk_drew ?_|refine blk_alloc ?_ _));exact BK276.out)):gb276≠gb281));have n6_:=Aside0.mk ((by rw [hg];exact Nat.ne_of_gt (blk_lt (g:=gb276) (o:=.cells #[.int .i64 a0_0,.int .i64 a0_1,.int .i64 a0_2,.int .i64 a0_3,.slice (some ad280) l0_4.length c0_4,.slice A0_5 l0_5.length c0_5,.slice A0_6 l0_6.length c0_6] 34 (0,0)) (by (with_reducible repeat (first|refine blk_drewN ?_ _|refine blk_drew ?_|refine blk_alloc ?_ _));exact BK276.out)):gb281≠gb276));clear BK276;clear HB;have BK276:=n0_;have HB:=n1_;have BK281:=n2_;have GW281:=n3_;have GE281:=n4_;have NB276_281:=n5_;have NB281_276:=n6_;clear n0_ n1_ n2_ n3_ n4_ n5_ n6_;clear hb hbox hg;have hnb27:=NB281_276.out;have hnc27:=NB276_281.out;have hcz28_0:w26.cell? ⟨gb281,0,none⟩=some (.int .i64 0):=(blk_cell BK281.out 0).trans rfl;have hcz28_1:w26.cell? ⟨gb281,1,none⟩=some (.int .i64 0):=(blk_cell BK281.out 1).trans rfl;have hfz28_0:=blk_frozen BK281.out 0;have hfz28_1:=blk_frozen BK281.out 1)|((with_reducible refine gate_callee (f:=57) rfl ?_);refine goesL_ (some 42) rfl rfl Try.func57 (by kernel_rfl) rfl #[.int .i64 ((rd_T79 l0_4 x36_2).f1)] rfl (by (try simp only [List.map_toArray,List.map_cons,List.map_nil]);first|done|rfl|(simp only [List.length_drop,List.length_take];rfl)) ?_;(with_reducible refine (impl_inMetric.calls ((rd_T79 l0_4 x36_2).f1) false _ A21.out).mono ?_);rintro e w' ⟨rfl,⟨nd,rfl⟩⟩;refine ⟨_,rfl,?_⟩))
          go_ret
          exact ⟨by first|rfl|(simp [errW_none,errW_some]<;>rfl)|(simp [*,errW_none,errW_some]<;>rfl),by repeat (first|exact HB.out|apply below_alloc|apply pw_below_drewN|apply below_drew1|refine below_set ?_ GE276.out|refine below_set ?_ GE281.out)⟩
        ·rw [if_neg c20] at H
         exact absurd H (by simp)
       ·rw [if_neg c19] at H
        exact absurd H (by simp)
      ·rw [if_neg c18] at H
       have c18b0:decide (x36_2<(l0_4.length:Int))=false:=decide_eq_false c18
       clear c18
       have H':=Aside0.mk H
       clear H
       obtain ⟨hcz29_0,hcz29_1,hcz29_2,hcz29_3,hcz29_4,hcz29_5,hcz29_6,hfz29_0,hfz29_1,hfz29_2,hfz29_3,hfz29_4,hfz29_5,hfz29_6⟩:=blkf7 BK276.out
       go_wp2
       go_loopg [48] k2 (fun kq v48 w'=>∃ (x48_3:Int),v48=.int .i64 x48_3∧Aside0 (impl_FontOk.l1 kq l0_5 (l0_5.length:Int) x48_3 a0_0 a0_1 a0_2 a0_3 l0_4 l0_5 l0_6=some r)∧Aside0 (kq≤k2)∧Aside0 (w'.heap[gb276]?=some (.cells #[.int .i64 a0_0,.int .i64 a0_1,.int .i64 a0_2,.int .i64 a0_3,(.slice A0_4 l0_4.length c0_4),(.slice A0_5 l0_5.length c0_5),(.slice A0_6 l0_6.length c0_6)] 34 (0,0)))∧Aside0 (Below w.heap.size w w'))
       case atStart=>exact ⟨(0),(by first|rfl|(simp;done)|(simp [*];done)),H',⟨Nat.le_refl _⟩,⟨by (with_reducible repeat (first|refine blk_drewN ?_ _|refine blk_drew ?_|refine blk_alloc ?_ _));exact BK276.out⟩,⟨by repeat (first|exact HB.out|apply below_alloc|apply pw_below_drewN|apply below_drew1|refine below_set ?_ GE276.out)⟩⟩
       case round=>
        clear H'
        try clear c1;try clear c2;try clear p2;try clear q2;try clear hx2;try clear c3;try clear c4;try clear c4b0;try clear c5;try clear c6;try clear c6b0;try clear p6;try clear c9;try clear c11;try clear c16;try clear c18;try clear c18b0;try clear c19;try clear c19b0;try clear c20;try clear c20b0;try clear c22;try clear c24;try clear c27;try clear p28;try clear q28;try clear hx28;try clear hcz13_0;try clear hcz13_1;try clear hcz13_2;try clear hcz13_3;try clear hcz13_4;try clear hcz13_5;try clear hcz13_6;try clear hcz14_0;try clear hcz14_1;try clear hcz14_2;try clear hcz14_3;try clear hcz14_4;try clear hcz14_5;try clear hcz14_6;try clear hcz15_0;try clear hcz15_1;try clear hcz15_2;try clear hcz15_3;try clear hcz15_4;try clear hcz15_5;try clear hcz15_6;try clear hcz17_0;try clear hcz17_1;try clear hcz17_2;try clear hcz17_3;try clear hcz17_4;try clear hcz17_5;try clear hcz17_6;try clear hcz25_0;try clear hcz25_1;try clear hcz28_0;try clear hcz28_1;try clear hcz29_0;try clear hcz29_1;try clear hcz29_2;try clear hcz29_3;try clear hcz29_4;try clear hcz29_5;try clear hcz29_6;try clear hcz5_0;try clear hcz5_1;try clear hcz5_2;try clear hcz5_3;try clear hcz5_4;try clear hcz5_5;try clear hcz5_6;try clear hcz7_0;try clear hcz7_1;try clear hcz7_2;try clear hcz7_3;try clear hcz7_4;try clear hcz7_5;try clear hcz7_6;try clear hfz13_0;try clear hfz13_1;try clear hfz13_2;try clear hfz13_3;try clear hfz13_4;try clear hfz13_5;try clear hfz13_6;try clear hfz14_0;try clear hfz14_1;try clear hfz14_2;try clear hfz14_3;try clear hfz14_4;try clear hfz14_5;try clear hfz14_6;try clear hfz15_0;try clear hfz15_1;try clear hfz15_2;try clear hfz15_3;try clear hfz15_4;try clear hfz15_5;try clear hfz15_6;try clear hfz17_0;try clear hfz17_1;try clear hfz17_2;try clear hfz17_3;try clear hfz17_4;try clear hfz17_5;try clear hfz17_6;try clear hfz25_0;try clear hfz25_1;try clear hfz28_0;try clear hfz28_1;try clear hfz29_0;try clear hfz29_1;try clear hfz29_2;try clear hfz29_3;try clear hfz29_4;try clear hfz29_5;try clear hfz29_6;try clear hfz5_0;try clear hfz5_1;try clear hfz5_2;try clear hfz5_3;try clear hfz5_4;try clear hfz5_5;try clear hfz5_6;try clear hfz7_0;try clear hfz7_1;try clear hfz7_2;try clear hfz7_3;try clear hfz7_4;try clear hfz7_5;try clear hfz7_6;try clear hx280_0;try clear hx280_1;try clear p2;try clear p280;try clear q280
        obtain ⟨x48_3,rfl,HA,HK3,BK276,HB⟩:=hrel
        cases gk with
       |zero=>exact absurd HA.out (by simp [impl_FontOk.l1])
       |succ k3=>
         have H:=HA.out
         clear HA
         simp only [impl_FontOk.l1] at H
         by_cases c30:x48_3<(l0_5.length:Int)
         ·rw [if_pos c30] at H
          have c30b0:decide (x48_3<(l0_5.length:Int))=true:=decide_eq_true c30
          clear c30
          by_cases c31:0≤x48_3
          ·rw [if_pos c31] at H
           have c31b0:decide (0≤x48_3)=true:=decide_eq_true c31
           clear c31
           by_cases c32:x48_3<(l0_5.length:Int)
           ·rw [if_pos c32] at H
            have c32b0:decide (x48_3<(l0_5.length:Int))=true:=decide_eq_true c32
            clear c32
            by_cases c33:((rd_T81 l0_5 x48_3).f2)<(-10000)
            ·rw [if_pos c33] at H
             have c33b0:decide (((rd_T81 l0_5 x48_3).f2)<(-10000))=true:=decide_eq_true c33
             clear c33
             obtain rfl:=Option.some.inj H
             have p283:0≤(x48_3:Int):=of_decide_eq_true (by first|(with_reducible assumption)|assumption)
             have q283:x48_3<(l0_5.length:Int):=of_decide_eq_true (by first|(with_reducible assumption)|assumption)
             obtain ⟨ad283,e283,hx283_0,hx283_1,hx283_2⟩:=at_T81 HR0_5.out x48_3 p283 q283
             cases e283
             replace hx283_0:=pw_cell_below HB.out hx283_0
             replace hx283_1:=pw_cell_below HB.out hx283_1
             replace hx283_2:=pw_cell_below HB.out hx283_2
             replace p283:=eq_true p283
             replace q283:=eq_true q283
             go_wp2_with (first|((with_reducible refine gate_dst (N:=6) rfl ?_);refine box_event ?hg (N:=6) ?hd (cs:=#[.int .i64 0,.int .i64 0,.int .i64 0]) (t:=81) ?hr ?_;(case hd=>rfl);(case hg=>rfl);(case hr=>first|(go_simp;done)|(go_simp;rfl));intro gb284 hg w34 hbox hb;have n0_:=Aside0.mk (blk_below (g:=gb276) (o:=.cells #[.int .i64 a0_0,.int .i64 a0_1,.int .i64 a0_2,.int .i64 a0_3,.slice A0_4 l0_4.length c0_4,.slice (some ad283) l0_5.length c0_5,.slice A0_6 l0_6.length c0_6] 34 (0,0)) (by (with_reducible repeat (first|refine blk_drewN ?_ _|refine blk_drew ?_|refine blk_alloc ?_ _));exact BK276.out) hb);have n1_:=Aside0.mk (below_step (by repeat (first|exact HB.out|apply below_alloc|apply pw_below_drewN|apply below_drew1|refine below_set ?_ GE276.out)) hb);have n2_:=Aside0.mk (hbox);have n3_:=Aside0.mk ((by rw [hg];exact (below_size (by repeat (first|exact HB.out|apply below_alloc|apply pw_below_drewN|apply below_drew1|refine below_set ?_ GE276.out))):w.heap.size≤gb284));have n4_:=Aside0.mk ((by rw [hg];exact (below_size (by repeat (first|exact HB.out|apply below_alloc|apply pw_below_drewN|apply below_drew1|refine below_set ?_ GE276.out))):w.heap.size≤gb284));have n5_:=Aside0.mk ((by rw [hg];exact Nat.ne_of_lt (blk_lt (g:=gb276) (o:=.cells #[.int .i64 a0_0,.int .i64 a0_1,.int .i64 a0_2,.int .i64 a0_3,.slice A0_4 l0_4.length c0_4,.slice (some ad283) l0_5.length c0_5,.slice A0_6 l0_6.length c0_6] 34 (0,0)) (by (with_reducible repeat (first|refine blk_drewN ?_ _|refine blk_drew ?_|refine blk_alloc ?_ _));exact BK276.out)):gb276≠gb284));have n6_:=Aside0.mk ((by rw [hg];exact Nat.ne_of_gt (blk_lt (g:=gb276) (o:=.cells #[.int .i64 a0_0,.int .i64 a0_1,.int .i64 a0_2,.int .i64 a0_3,.slice A0_4 l0_4.length c0_4,.slice (some ad283) l0_5.length c0_5,.slice A0_6 l0_6.length c0_6] 34 (0,0)) (by (with_reducible repeat (first|refine blk_drewN ?_ _|refine blk_drew ?_|refine blk_alloc ?_ _));exact BK276.out)):gb284≠gb276));clear BK276;clear HB;have BK276:=n0_;have HB:=n1_;have BK284:=n2_;have GW284:=n3_;have GE284:=n4_;have NB276_284:=n5_;have NB284_276:=n6_;clear n0_ n1_ n2_ n3_ n4_ n5_ n6_;clear hb hbox hg;have hnb35:=NB284_276.out;have hnc35:=NB276_284.out;have hcz36_0:w34.cell? ⟨gb284,0,none⟩=some (.int .i64 0):=(blk_cell BK284.out 0).trans rfl;have hcz36_1:w34.cell? ⟨gb284,1,none⟩=some (.int .i64 0):=(blk_cell BK284.out 1).trans rfl;have hcz36_2:w34.cell? ⟨gb284,2,none⟩=some (.int .i64 0):=(blk_cell BK284.out 2).trans rfl;have hfz36_0:=blk_frozen BK284.out 0;have hfz36_1:=blk_frozen BK284.out 1;have hfz36_2:=blk_frozen BK284.out 2))
             go_ret
             exact ⟨by first|rfl|(simp [errW_none,errW_some]<;>rfl)|(simp [*,errW_none,errW_some]<;>rfl),by repeat (first|exact HB.out|apply below_alloc|apply pw_below_drewN|apply below_drew1|refine below_set ?_ GE276.out|refine below_set ?_ GE284.out)⟩
            ·rw [if_neg c33] at H
             have c33b0:decide (((rd_T81 l0_5 x48_3).f2)<(-10000))=false:=decide_eq_false c33
             clear c33
             by_cases c37:((rd_T81 l0_5 x48_3).f2) > 10000
             ·rw [if_pos c37] at H
              have c37b0:decide (10000<((rd_T81 l0_5 x48_3).f2))=true:=decide_eq_true c37
              clear c37
              obtain rfl:=Option.some.inj H
              have p283:0≤(x48_3:Int):=of_decide_eq_true (by first|(with_reducible assumption)|assumption)
              have q283:x48_3<(l0_5.length:Int):=of_decide_eq_true (by first|(with_reducible assumption)|assumption)
              obtain ⟨ad283,e283,hx283_0,hx283_1,hx283_2⟩:=at_T81 HR0_5.out x48_3 p283 q283
              cases e283
              replace hx283_0:=pw_cell_below HB.out hx283_0
              replace hx283_1:=pw_cell_below HB.out hx283_1
              replace hx283_2:=pw_cell_below HB.out hx283_2
              replace p283:=eq_true p283
              replace q283:=eq_true q283
              go_wp2_with (first|((with_reducible refine gate_dst (N:=6) rfl ?_);refine box_event ?hg (N:=6) ?hd (cs:=#[.int .i64 0,.int .i64 0,.int .i64 0]) (t:=81) ?hr ?_;(case hd=>rfl);(case hg=>rfl);(case hr=>first|(go_simp;done)|(go_simp;rfl));intro gb284 hg w38 hbox hb;have n0_:=Aside0.mk (blk_below (g:=gb276) (o:=.cells #[.int .i64 a0_0,.int .i64 a0_1,.int .i64 a0_2,.int .i64 a0_3,.slice A0_4 l0_4.length c0_4,.slice (some ad283) l0_5.length c0_5,.slice A0_6 l0_6.length c0_6] 34 (0,0)) (by (with_reducible repeat (first|refine blk_drewN ?_ _|refine blk_drew ?_|refine blk_alloc ?_ _));exact BK276.out) hb);have n1_:=Aside0.mk (below_step (by repeat (first|exact HB.out|apply below_alloc|apply pw_below_drewN|apply below_drew1|refine below_set ?_ GE276.out)) hb);have n2_:=Aside0.mk (hbox);have n3_:=Aside0.mk ((by rw [hg];exact (below_size (by repeat (first|exact HB.out|apply below_alloc|apply pw_below_drewN|apply below_drew1|refine below_set ?_ GE276.out))):w.heap.size≤gb284));have n4_:=Aside0.mk ((by rw [hg];exact (below_size (by repeat (first|exact HB.out|apply below_alloc|apply pw_below_drewN|apply below_drew1|refine below_set ?_ GE276.out))):w.heap.size≤gb284));have n5_:=Aside0.mk ((by rw [hg];exact Nat.ne_of_lt (blk_lt (g:=gb276) (o:=.cells #[.int .i64 a0_0,.int .i64 a0_1,.int .i64 a0_2,.int .i64 a0_3,.slice A0_4 l0_4.length c0_4,.slice (some ad283) l0_5.length c0_5,.slice A0_6 l0_6.length c0_6] 34 (0,0)) (by (with_reducible repeat (first|refine blk_drewN ?_ _|refine blk_drew ?_|refine blk_alloc ?_ _));exact BK276.out)):gb276≠gb284));have n6_:=Aside0.mk ((by rw [hg];exact Nat.ne_of_gt (blk_lt (g:=gb276) (o:=.cells #[.int .i64 a0_0,.int .i64 a0_1,.int .i64 a0_2,.int .i64 a0_3,.slice A0_4 l0_4.length c0_4,.slice (some ad283) l0_5.length c0_5,.slice A0_6 l0_6.length c0_6] 34 (0,0)) (by (with_reducible repeat (first|refine blk_drewN ?_ _|refine blk_drew ?_|refine blk_alloc ?_ _));exact BK276.out)):gb284≠gb276));clear BK276;clear HB;have BK276:=n0_;have HB:=n1_;have BK284:=n2_;have GW284:=n3_;have GE284:=n4_;have NB276_284:=n5_;have NB284_276:=n6_;clear n0_ n1_ n2_ n3_ n4_ n5_ n6_;clear hb hbox hg;have hnb39:=NB284_276.out;have hnc39:=NB276_284.out;have hcz40_0:w38.cell? ⟨gb284,0,none⟩=some (.int .i64 0):=(blk_cell BK284.out 0).trans rfl;have hcz40_1:w38.cell? ⟨gb284,1,none⟩=some (.int .i64 0):=(blk_cell BK284.out 1).trans rfl;have hcz40_2:w38.cell? ⟨gb284,2,none⟩=some (.int .i64 0):=(blk_cell BK284.out 2).trans rfl;have hfz40_0:=blk_frozen BK284.out 0;have hfz40_1:=blk_frozen BK284.out 1;have hfz40_2:=blk_frozen BK284.out 2))
              go_ret
              exact ⟨by first|rfl|(simp [errW_none,errW_some]<;>rfl)|(simp [*,errW_none,errW_some]<;>rfl),by repeat (first|exact HB.out|apply below_alloc|apply pw_below_drewN|apply below_drew1|refine below_set ?_ GE276.out|refine below_set ?_ GE284.out)⟩
             ·rw [if_neg c37] at H
              have c37b0:decide (10000<((rd_T81 l0_5 x48_3).f2))=false:=decide_eq_false c37
              clear c37
              have H':=Aside0.mk H
              clear H
              have p283:0≤(x48_3:Int):=of_decide_eq_true (by first|(with_reducible assumption)|assumption)
              have q283:x48_3<(l0_5.length:Int):=of_decide_eq_true (by first|(with_reducible assumption)|assumption)
              obtain ⟨ad283,e283,hx283_0,hx283_1,hx283_2⟩:=at_T81 HR0_5.out x48_3 p283 q283
              cases e283
              replace hx283_0:=pw_cell_below HB.out hx283_0
              replace hx283_1:=pw_cell_below HB.out hx283_1
              replace hx283_2:=pw_cell_below HB.out hx283_2
              replace p283:=eq_true p283
              replace q283:=eq_true q283
              go_wp2_with (first|((with_reducible refine gate_dst (N:=6) rfl ?_);refine box_event ?hg (N:=6) ?hd (cs:=#[.int .i64 0,.int .i64 0,.int .i64 0]) (t:=81) ?hr ?_;(case hd=>rfl);(case hg=>rfl);(case hr=>first|(go_simp;done)|(go_simp;rfl));intro gb284 hg w41 hbox hb;have n0_:=Aside0.mk (blk_below (g:=gb276) (o:=.cells #[.int .i64 a0_0,.int .i64 a0_1,.int .i64 a0_2,.int .i64 a0_3,.slice A0_4 l0_4.length c0_4,.slice (some ad283) l0_5.length c0_5,.slice A0_6 l0_6.length c0_6] 34 (0,0)) (by (with_reducible repeat (first|refine blk_drewN ?_ _|refine blk_drew ?_|refine blk_alloc ?_ _));exact BK276.out) hb);have n1_:=Aside0.mk (below_step (by repeat (first|exact HB.out|apply below_alloc|apply pw_below_drewN|apply below_drew1|refine below_set ?_ GE276.out)) hb);have n2_:=Aside0.mk (hbox);have n3_:=Aside0.mk ((by rw [hg];exact (below_size (by repeat (first|exact HB.out|apply below_alloc|apply pw_below_drewN|apply below_drew1|refine below_set ?_ GE276.out))):w.heap.size≤gb284));have n4_:=Aside0.mk ((by rw [hg];exact (below_size (by repeat (first|exact HB.out|apply below_alloc|apply pw_below_drewN|apply below_drew1|refine below_set ?_ GE276.out))):w.heap.size≤gb284));have n5_:=Aside0.mk ((by rw [hg];exact Nat.ne_of_lt (blk_lt (g:=gb276) (o:=.cells #[.int .i64 a0_0,.int .i64 a0_1,.int .i64 a0_2,.int .i64 a0_3,.slice A0_4 l0_4.length c0_4,.slice (some ad283) l0_5.length c0_5,.slice A0_6 l0_6.length c0_6] 34 (0,0)) (by (with_reducible repeat (first|refine blk_drewN ?_ _|refine blk_drew ?_|refine blk_alloc ?_ _));exact BK276.out)):gb276≠gb284));have n6_:=Aside0.mk ((by rw [hg];exact Nat.ne_of_gt (blk_lt (g:=gb276) (o:=.cells #[.int .i64 a0_0,.int .i64 a0_1,.int .i64 a0_2,.int .i64 a0_3,.slice A0_4 l0_4.length c0_4,.slice (some ad283) l0_5.length c0_5,.slice A0_6 l0_6.length c0_6] 34 (0,0)) (by (with_reducible repeat (first|refine blk_drewN ?_ _|refine blk_drew ?_|refine blk_alloc ?_ _));exact BK276.out)):gb284≠gb276));clear BK276;clear HB;have BK276:=n0_;have HB:=n1_;have BK284:=n2_;have GW284:=n3_;have GE284:=n4_;have NB276_284:=n5_;have NB284_276:=n6_;clear n0_ n1_ n2_ n3_ n4_ n5_ n6_;clear hb hbox hg;have hnb42:=NB284_276.out;have hnc42:=NB276_284.out;have hcz43_0:w41.cell? ⟨gb284,0,none⟩=some (.int .i64 0):=(blk_cell BK284.out 0).trans rfl;have hcz43_1:w41.cell? ⟨gb284,1,none⟩=some (.int .i64 0):=(blk_cell BK284.out 1).trans rfl;have hcz43_2:w41.cell? ⟨gb284,2,none⟩=some (.int .i64 0):=(blk_cell BK284.out 2).trans rfl;have hfz43_0:=blk_frozen BK284.out 0;have hfz43_1:=blk_frozen BK284.out 1;have hfz43_2:=blk_frozen BK284.out 2))
              go_roundg k3
              case measure=>have:=HJ1.out;have:=HK2.out;have:=HK3.out;omega
              case rel=>exact ⟨(wrap64 (x48_3+1)),(by first|rfl|(simp;done)|(simp [*];done)),H',⟨by have:=HJ1.out;have:=HK2.out;have:=HK3.out;omega⟩,⟨by (with_reducible repeat (first|refine blk_drewN ?_ _|refine blk_drew ?_|refine blk_alloc ?_ _));refine blk_far ?_ NB276_284.out _;(with_reducible repeat (first|refine blk_drewN ?_ _|refine blk_drew ?_|refine blk_alloc ?_ _));refine blk_far ?_ NB276_284.out _;(with_reducible repeat (first|refine blk_drewN ?_ _|refine blk_drew ?_|refine blk_alloc ?_ _));refine blk_far ?_ NB276_284.out _;(with_reducible repeat (first|refine blk_drewN ?_ _|refine blk_drew ?_|refine blk_alloc ?_ _));exact BK276.out⟩,⟨by repeat (first|exact HB.out|apply below_alloc|apply pw_below_drewN|apply below_drew1|refine below_set ?_ GE276.out|refine below_set ?_ GE284.out)⟩⟩
           ·rw [if_neg c32] at H
            exact absurd H (by simp)
          ·rw [if_neg c31] at H
           exact absurd H (by simp)
         ·rw [if_neg c30] at H
          have c30b0:decide (x48_3<(l0_5.length:Int))=false:=decide_eq_false c30
          clear c30
          replace H:=Option.bind_eq_some_iff.mp H
          obtain ⟨t285,A440,H⟩:=H
          replace H:(if t285=true then ((impl_Kern.f k3 l0_5 0).bind fun t286=>(if t286=true then ((impl_Lig.f k3 l0_6 0).bind fun t287=>(some t287)) else (some false))) else (some false))=some r:=H
          have A44:=Aside0.mk A440
          clear A440
          by_cases c45:t285=true
          ·subst c45
           have H1:((impl_Kern.f k3 l0_5 0).bind fun t286=>(if t286=true then ((impl_Lig.f k3 l0_6 0).bind fun t287=>(some t287)) else (some false)))=some r:=by rw [if_pos rfl] at H;exact H
           clear H
           have H:=H1
           clear H1
           replace H:=Option.bind_eq_some_iff.mp H
           obtain ⟨t286,A460,H⟩:=H
           replace H:(if t286=true then ((impl_Lig.f k3 l0_6 0).bind fun t287=>(some t287)) else (some false))=some r:=H
           have A46:=Aside0.mk A460
           clear A460
           by_cases c47:t286=true
           ·subst c47
            have H1:((impl_Lig.f k3 l0_6 0).bind fun t287=>(some t287))=some r:=by rw [if_pos rfl] at H;exact H
            clear H
            have H:=H1
            clear H1
            replace H:=Option.bind_eq_some_iff.mp H
            obtain ⟨t287,A480,H⟩:=H
            replace H:(some t287)=some r:=H
            have A48:=Aside0.mk A480
            clear A480
            obtain rfl:=Option.some.inj H
            obtain ⟨hcz49_0,hcz49_1,hcz49_2,hcz49_3,hcz49_4,hcz49_5,hcz49_6,hfz49_0,hfz49_1,hfz49_2,hfz49_3,hfz49_4,hfz49_5,hfz49_6⟩:=blkf7 BK276.out
            go_wp2_with (first|((with_reducible refine gate_callee (f:=58) rfl ?_);refine goesL_ (some 63) rfl rfl Try.func58 (by kernel_rfl) rfl #[.slice A0_4 l0_4.length c0_4,.func (.func 59) #[] #[]] rfl (by (try simp only [List.map_toArray,List.map_cons,List.map_nil]);first|done|rfl|(simp only [List.length_drop,List.length_take];rfl)) ?_;(with_reducible refine (impl_Glyph.calls k3 _ _ l0_4 0 true _ ?side1 ?side2 A44.out).mono ?_);(case side1=>repeat (first|exact (Kd.C_below HR0_4.out HB.out)|(with_reducible refine Kd.C_alloc ?_ _)|(with_reducible refine Kd.C_drewN ?_ _)|(with_reducible refine Kd.C_drew ?_)));(case side2=>exact HC0_4.out);rintro e w50 ⟨rfl,hb⟩;refine ⟨_,rfl,?_⟩;have n0_:=Aside0.mk (blk_below (g:=gb276) (o:=.cells #[.int .i64 a0_0,.int .i64 a0_1,.int .i64 a0_2,.int .i64 a0_3,.slice A0_4 l0_4.length c0_4,.slice A0_5 l0_5.length c0_5,.slice A0_6 l0_6.length c0_6] 34 (0,0)) (by (with_reducible repeat (first|refine blk_drewN ?_ _|refine blk_drew ?_|refine blk_alloc ?_ _));exact BK276.out) hb);have n1_:=Aside0.mk (below_step (by repeat (first|exact HB.out|apply below_alloc|apply pw_below_drewN|apply below_drew1|refine below_set ?_ GE276.out)) hb);clear BK276;clear HB;have BK276:=n0_;have HB:=n1_;clear n0_ n1_;(try clear hb);(try clear hb2);(try clear hk);(try clear hi);have hcz51_0:w50.cell? ⟨gb276,0,none⟩=some (.int .i64 a0_0):=(blk_cell BK276.out 0).trans rfl;have hcz51_1:w50.cell? ⟨gb276,1,none⟩=some (.int .i64 a0_1):=(blk_cell BK276.out 1).trans rfl;have hcz51_2:w50.cell? ⟨gb276,2,none⟩=some (.int .i64 a0_2):=(blk_cell BK276.out 2).trans rfl;have hcz51_3:w50.cell? ⟨gb276,3,none⟩=some (.int .i64 a0_3):=(blk_cell BK276.out 3).trans rfl;have hcz51_4:w50.cell? ⟨gb276,4,none⟩=some (.slice A0_4 l0_4.length c0_4):=(blk_cell BK276.out 4).trans rfl;have hcz51_5:w50.cell? ⟨gb276,5,none⟩=some (.slice A0_5 l0_5.length c0_5):=(blk_cell BK276.out 5).trans rfl;have hcz51_6:w50.cell? ⟨gb276,6,none⟩=some (.slice A0_6 l0_6.length c0_6):=(blk_cell BK276.out 6).trans rfl;have hfz51_0:=blk_frozen BK276.out 0;have hfz51_1:=blk_frozen BK276.out 1;have hfz51_2:=blk_frozen BK276.out 2;have hfz51_3:=blk_frozen BK276.out 3;have hfz51_4:=blk_frozen BK276.out 4;have hfz51_5:=blk_frozen BK276.out 5;have hfz51_6:=blk_frozen BK276.out 6)|(go_at_call 61;(with_reducible refine (impl_Kern.calls k3 _ _ l0_5 0 true _ ?side1 ?side2 A46.out).mono ?_);(case side1=>repeat (first|exact (Kd.C_below HR0_5.out HB.out)|(with_reducible refine Kd.C_alloc ?_ _)|(with_reducible refine Kd.C_drewN ?_ _)|(with_reducible refine Kd.C_drew ?_)));(case side2=>exact HC0_5.out);rintro e w52 ⟨rfl,hb⟩;have n0_:=Aside0.mk (blk_below (g:=gb276) (o:=.cells #[.int .i64 a0_0,.int .i64 a0_1,.int .i64 a0_2,.int .i64 a0_3,.slice A0_4 l0_4.length c0_4,.slice A0_5 l0_5.length c0_5,.slice A0_6 l0_6.length c0_6] 34 (0,0)) (by (with_reducible repeat (first|refine blk_drewN ?_ _|refine blk_drew ?_|refine blk_alloc ?_ _));exact BK276.out) hb);have n1_:=Aside0.mk (below_step (by repeat (first|exact HB.out|apply below_alloc|apply pw_below_drewN|apply below_drew1|refine below_set ?_ GE276.out)) hb);clear BK276;clear HB;have BK276:=n0_;have HB:=n1_;clear n0_ n1_;(try clear hb);(try clear hb2);(try clear hk);(try clear hi);have hcz53_0:w52.cell? ⟨gb276,0,none⟩=some (.int .i64 a0_0):=(blk_cell BK276.out 0).trans rfl;have hcz53_1:w52.cell? ⟨gb276,1,none⟩=some (.int .i64 a0_1):=(blk_cell BK276.out 1).trans rfl;have hcz53_2:w52.cell? ⟨gb276,2,none⟩=some (.int .i64 a0_2):=(blk_cell BK276.out 2).trans rfl;have hcz53_3:w52.cell? ⟨gb276,3,none⟩=some (.int .i64 a0_3):=(blk_cell BK276.out 3).trans rfl;have hcz53_4:w52.cell? ⟨gb276,4,none⟩=some (.slice A0_4 l0_4.length c0_4):=(blk_cell BK276.out 4).trans rfl;have hcz53_5:w52.cell? ⟨gb276,5,none⟩=some (.slice A0_5 l0_5.length c0_5):=(blk_cell BK276.out 5).trans rfl;have hcz53_6:w52.cell? ⟨gb276,6,none⟩=some (.slice A0_6 l0_6.length c0_6):=(blk_cell BK276.out 6).trans rfl;have hfz53_0:=blk_frozen BK276.out 0;have hfz53_1:=blk_frozen BK276.out 1;have hfz53_2:=blk_frozen BK276.out 2;have hfz53_3:=blk_frozen BK276.out 3;have hfz53_4:=blk_frozen BK276.out 4;have hfz53_5:=blk_frozen BK276.out 5;have hfz53_6:=blk_frozen BK276.out 6)|(go_at_call 64;(with_reducible refine (impl_Lig.calls k3 _ _ l0_6 0 t287 _ ?side1 ?side2 A48.out).mono ?_);(case side1=>repeat (first|exact (Kd.C_below HR0_6.out HB.out)|(with_reducible refine Kd.C_alloc ?_ _)|(with_reducible refine Kd.C_drewN ?_ _)|(with_reducible refine Kd.C_drew ?_)));(case side2=>exact HC0_6.out);rintro e w54 ⟨rfl,hb⟩;have n0_:=Aside0.mk (blk_below (g:=gb276) (o:=.cells #[.int .i64 a0_0,.int .i64 a0_1,.int .i64 a0_2,.int .i64 a0_3,.slice A0_4 l0_4.length c0_4,.slice A0_5 l0_5.length c0_5,.slice A0_6 l0_6.length c0_6] 34 (0,0)) (by (with_reducible repeat (first|refine blk_drewN ?_ _|refine blk_drew ?_|refine blk_alloc ?_ _));exact BK276.out) hb);have n1_:=Aside0.mk (below_step (by repeat (first|exact HB.out|apply below_alloc|apply pw_below_drewN|apply below_drew1|refine below_set ?_ GE276.out)) hb);clear BK276;clear HB;have BK276:=n0_;have HB:=n1_;clear n0_ n1_;(try clear hb);(try clear hb2);(try clear hk);(try clear hi)))
            go_ret
            exact ⟨by first|rfl|(simp [errW_none,errW_some]<;>rfl)|(simp [*,errW_none,errW_some]<;>rfl),by repeat (first|exact HB.out|apply below_alloc|apply pw_below_drewN|apply below_drew1|refine below_set ?_ GE276.out)⟩
           ·replace c47:=Bool.eq_false_iff.mpr c47
            subst c47
            have H1:(some false)=some r:=by rw [if_neg (show ¬ (false=true) by decide)] at H;exact H
            clear H
            have H:=H1
            clear H1
            obtain rfl:=Option.some.inj H
            obtain ⟨hcz55_0,hcz55_1,hcz55_2,hcz55_3,hcz55_4,hcz55_5,hcz55_6,hfz55_0,hfz55_1,hfz55_2,hfz55_3,hfz55_4,hfz55_5,hfz55_6⟩:=blkf7 BK276.out
            go_wp2_with (first|((with_reducible refine gate_callee (f:=58) rfl ?_);refine goesL_ (some 63) rfl rfl Try.func58 (by kernel_rfl) rfl #[.slice A0_4 l0_4.length c0_4,.func (.func 59) #[] #[]] rfl (by (try simp only [List.map_toArray,List.map_cons,List.map_nil]);first|done|rfl|(simp only [List.length_drop,List.length_take];rfl)) ?_;(with_reducible refine (impl_Glyph.calls k3 _ _ l0_4 0 true _ ?side1 ?side2 A44.out).mono ?_);(case side1=>repeat (first|exact (Kd.C_below HR0_4.out HB.out)|(with_reducible refine Kd.C_alloc ?_ _)|(with_reducible refine Kd.C_drewN ?_ _)|(with_reducible refine Kd.C_drew ?_)));(case side2=>exact HC0_4.out);rintro e w56 ⟨rfl,hb⟩;refine ⟨_,rfl,?_⟩;have n0_:=Aside0.mk (blk_below (g:=gb276) (o:=.cells #[.int .i64 a0_0,.int .i64 a0_1,.int .i64 a0_2,.int .i64 a0_3,.slice A0_4 l0_4.length c0_4,.slice A0_5 l0_5.length c0_5,.slice A0_6 l0_6.length c0_6] 34 (0,0)) (by (with_reducible repeat (first|refine blk_drewN ?_ _|refine blk_drew ?_|refine blk_alloc ?_ _));exact BK276.out) hb);have n1_:=Aside0.mk (below_step (by repeat (first|exact HB.out|apply below_alloc|apply pw_below_drewN|apply below_drew1|refine below_set ?_ GE276.out)) hb);clear BK276;clear HB;have BK276:=n0_;have HB:=n1_;clear n0_ n1_;(try clear hb);(try clear hb2);(try clear hk);(try clear hi);have hcz57_0:w56.cell? ⟨gb276,0,none⟩=some (.int .i64 a0_0):=(blk_cell BK276.out 0).trans rfl;have hcz57_1:w56.cell? ⟨gb276,1,none⟩=some (.int .i64 a0_1):=(blk_cell BK276.out 1).trans rfl;have hcz57_2:w56.cell? ⟨gb276,2,none⟩=some (.int .i64 a0_2):=(blk_cell BK276.out 2).trans rfl;have hcz57_3:w56.cell? ⟨gb276,3,none⟩=some (.int .i64 a0_3):=(blk_cell BK276.out 3).trans rfl;have hcz57_4:w56.cell? ⟨gb276,4,none⟩=some (.slice A0_4 l0_4.length c0_4):=(blk_cell BK276.out 4).trans rfl;have hcz57_5:w56.cell? ⟨gb276,5,none⟩=some (.slice A0_5 l0_5.length c0_5):=(blk_cell BK276.out 5).trans rfl;have hcz57_6:w56.cell? ⟨gb276,6,none⟩=some (.slice A0_6 l0_6.length c0_6):=(blk_cell BK276.out 6).trans rfl;have hfz57_0:=blk_frozen BK276.out 0;have hfz57_1:=blk_frozen BK276.out 1;have hfz57_2:=blk_frozen BK276.out 2;have hfz57_3:=blk_frozen BK276.out 3;have hfz57_4:=blk_frozen BK276.out 4;have hfz57_5:=blk_frozen BK276.out 5;have hfz57_6:=blk_frozen BK276.out 6)|(go_at_call 61;(with_reducible refine (impl_Kern.calls k3 _ _ l0_5 0 false _ ?side1 ?side2 A46.out).mono ?_);(case side1=>repeat (first|exact (Kd.C_below HR0_5.out HB.out)|(with_reducible refine Kd.C_alloc ?_ _)|(with_reducible refine Kd.C_drewN ?_ _)|(with_reducible refine Kd.C_drew ?_)));(case side2=>exact HC0_5.out);rintro e w58 ⟨rfl,hb⟩;have n0_:=Aside0.mk (blk_below (g:=gb276) (o:=.cells #[.int .i64 a0_0,.int .i64 a0_1,.int .i64 a0_2,.int .i64 a0_3,.slice A0_4 l0_4.length c0_4,.slice A0_5 l0_5.length c0_5,.slice A0_6 l0_6.length c0_6] 34 (0,0)) (by (with_reducible repeat (first|refine blk_drewN ?_ _|refine blk_drew ?_|refine blk_alloc ?_ _));exact BK276.out) hb);have n1_:=Aside0.mk (below_step (by repeat (first|exact HB.out|apply below_alloc|apply pw_below_drewN|apply below_drew1|refine below_set ?_ GE276.out)) hb);clear BK276;clear HB;have BK276:=n0_;have HB:=n1_;clear n0_ n1_;(try clear hb);(try clear hb2);(try clear hk);(try clear hi)))
            go_ret
            exact ⟨by first|rfl|(simp [errW_none,errW_some]<;>rfl)|(simp [*,errW_none,errW_some]<;>rfl),by repeat (first|exact HB.out|apply below_alloc|apply pw_below_drewN|apply below_drew1|refine below_set ?_ GE276.out)⟩
          ·replace c45:=Bool.eq_false_iff.mpr c45
           subst c45
           have H1:(some false)=some r:=by rw [if_neg (show ¬ (false=true) by decide)] at H;exact H
           clear H
           have H:=H1
           clear H1
           obtain rfl:=Option.some.inj H
           obtain ⟨hcz59_0,hcz59_1,hcz59_2,hcz59_3,hcz59_4,hcz59_5,hcz59_6,hfz59_0,hfz59_1,hfz59_2,hfz59_3,hfz59_4,hfz59_5,hfz59_6⟩:=blkf7 BK276.out
           go_wp2_with (first|((with_reducible refine gate_callee (f:=58) rfl ?_);refine goesL_ (some 63) rfl rfl Try.func58 (by kernel_rfl) rfl #[.slice A0_4 l0_4.length c0_4,.func (.func 59) #[] #[]] rfl (by (try simp only [List.map_toArray,List.map_cons,List.map_nil]);first|done|rfl|(simp only [List.length_drop,List.length_take];rfl)) ?_;(with_reducible refine (impl_Glyph.calls k3 _ _ l0_4 0 false _ ?side1 ?side2 A44.out).mono ?_);(case side1=>repeat (first|exact (Kd.C_below HR0_4.out HB.out)|(with_reducible refine Kd.C_alloc ?_ _)|(with_reducible refine Kd.C_drewN ?_ _)|(with_reducible refine Kd.C_drew ?_)));(case side2=>exact HC0_4.out);rintro e w60 ⟨rfl,hb⟩;refine ⟨_,rfl,?_⟩;have n0_:=Aside0.mk (blk_below (g:=gb276) (o:=.cells #[.int .i64 a0_0,.int .i64 a0_1,.int .i64 a0_2,.int .i64 a0_3,.slice A0_4 l0_4.length c0_4,.slice A0_5 l0_5.length c0_5,.slice A0_6 l0_6.length c0_6] 34 (0,0)) (by (with_reducible repeat (first|refine blk_drewN ?_ _|refine blk_drew ?_|refine blk_alloc ?_ _));exact BK276.out) hb);have n1_:=Aside0.mk (below_step (by repeat (first|exact HB.out|apply below_alloc|apply pw_below_drewN|apply below_drew1|refine below_set ?_ GE276.out)) hb);clear BK276;clear HB;have BK276:=n0_;have HB:=n1_;clear n0_ n1_;(try clear hb);(try clear hb2);(try clear hk);(try clear hi)))
           go_ret
           exact ⟨by first|rfl|(simp [errW_none,errW_some]<;>rfl)|(simp [*,errW_none,errW_some]<;>rfl),by repeat (first|exact HB.out|apply below_alloc|apply pw_below_drewN|apply below_drew1|refine below_set ?_ GE276.out)⟩
end Go.Proofs.Ytiinihponcojkaa.QFnExactAdvance
