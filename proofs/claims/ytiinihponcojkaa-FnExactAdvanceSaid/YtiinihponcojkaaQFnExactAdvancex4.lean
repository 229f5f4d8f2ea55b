/- Written by a program (wip/tools/own_print.py) out of the walk that the kit's printer made; turned where it fell. -/
-- PRINTED by print.py (a twelfth state) out of the translation. Not trusted: Lean checks it.
import Derived.Test.YtiinihponcojkaaQFnExactAdvancex0
import Derived.Test.YtiinihponcojkaaQFnExactAdvancex2
import Derived.Test.YtiinihponcojkaaQFnExactAdvancex3
namespace Go.Proofs.Ytiinihponcojkaa.QFnExactAdvance
open Go.RowKit Go.Proofs.YtiinihponcojkaaV.PrintWords Go.Proofs.YtiinihponcojkaaV.PrintLast Go.Proofs.YtiinihponcojkaaV.PrintMore
attribute [local go_sem] max2_int min2_int max_two min_two max_three min_three max_four min_four   -- for this text's walks alone
set_option linter.unusedVariables false
set_option linter.unusedSimpArgs false
/-! ### laws_eqFont: function 12 -/
def laws_eqFont.f (k:Nat) (a0_0:Int) (a0_1:Int) (a0_2:Int) (a0_3:Int) (l0_4:List (S79)) (l0_5:List (S81)) (l0_6:List (S84)) (a1_0:Int) (a1_1:Int) (a1_2:Int) (a1_3:Int) (l1_4:List (S79)) (l1_5:List (S81)) (l1_6:List (S84)):Option (Bool):=if a0_0=a1_0 then (if a0_1=a1_1 then (if a0_2=a1_2 then (if a0_3=a1_3 then ((laws_eqGlyphS.f k l0_4 l1_4).bind fun t173=>(if t173=true then ((laws_eqKernS.f k l0_5 l1_5).bind fun t174=>(if t174=true then ((laws_eqLigS.f k l0_6 l1_6).bind fun t175=>(if t175=true then (some true) else (none))) else (none))) else (none))) else (none)) else (none)) else (none)) else (none)
theorem laws_eqFont.mono:∀ a0 a1 a2 a3 a4 a5 a6 a7 a8 a9 a10 a11 a12 a13 k,LeO (laws_eqFont.f k a0 a1 a2 a3 a4 a5 a6 a7 a8 a9 a10 a11 a12 a13) (laws_eqFont.f (k+1) a0 a1 a2 a3 a4 a5 a6 a7 a8 a9 a10 a11 a12 a13):=by
 intro a0 a1 a2 a3 a4 a5 a6 a7 a8 a9 a10 a11 a12 a13 k
 unfold laws_eqFont.f
 repeat' first
   |(with_reducible exact laws_eqGlyphS.mono _ _ _)
   |(with_reducible exact laws_eqKernS.mono _ _ _)
   |(with_reducible exact laws_eqLigS.mono _ _ _)
   |(with_reducible exact LeO.refl _)
   |(with_reducible exact LeO.none _)
   |(with_reducible refine LeO.ite ?_ ?_)
   |(with_reducible refine LeO.bind ?_ (fun _=>?_))
   |exact laws_eqGlyphS.mono _ _ _
   |exact laws_eqKernS.mono _ _ _
   |exact laws_eqLigS.mono _ _ _
   |exact LeO.none _
   |refine LeO.ite ?_ ?_
   |refine LeO.bind ?_ (fun _=>?_)
set_option maxHeartbeats 8000000 in
set_option maxRecDepth 100000 in
theorem laws_eqFont.calls (k:Nat) (a0_0:Int) (a0_1:Int) (a0_2:Int) (a0_3:Int) (A0_4:Option Addr) (c0_4:Nat) (l0_4:List (S79)) (A0_5:Option Addr) (c0_5:Nat) (l0_5:List (S81)) (A0_6:Option Addr) (c0_6:Nat) (l0_6:List (S84)) (a1_0:Int) (a1_1:Int) (a1_2:Int) (a1_3:Int) (A1_4:Option Addr) (c1_4:Nat) (l1_4:List (S79)) (A1_5:Option Addr) (c1_5:Nat) (l1_5:List (S81)) (A1_6:Option Addr) (c1_6:Nat) (l1_6:List (S84)) (r:Bool) (w:World) (hr0_4:Kd.C k79 w A0_4 l0_4.length l0_4) (hc0_4:l0_4.length≤c0_4) (hr0_5:Kd.C k81 w A0_5 l0_5.length l0_5) (hc0_5:l0_5.length≤c0_5) (hr0_6:Kd.C k84 w A0_6 l0_6.length l0_6) (hc0_6:l0_6.length≤c0_6) (hr1_4:Kd.C k79 w A1_4 l1_4.length l1_4) (hc1_4:l1_4.length≤c1_4) (hr1_5:Kd.C k81 w A1_5 l1_5.length l1_5) (hc1_5:l1_5.length≤c1_5) (hr1_6:Kd.C k84 w A1_6 l1_6.length l1_6) (hc1_6:l1_6.length≤c1_6) (h:laws_eqFont.f k a0_0 a0_1 a0_2 a0_3 l0_4 l0_5 l0_6 a1_0 a1_1 a1_2 a1_3 l1_4 l1_5 l1_6=some r) :
  Calls Try.prog 12 #[.agg #[.int .i64 a0_0,.int .i64 a0_1,.int .i64 a0_2,.int .i64 a0_3,.slice A0_4 l0_4.length c0_4,.slice A0_5 l0_5.length c0_5,.slice A0_6 l0_6.length c0_6],.agg #[.int .i64 a1_0,.int .i64 a1_1,.int .i64 a1_2,.int .i64 a1_3,.slice A1_4 l1_4.length c1_4,.slice A1_5 l1_5.length c1_5,.slice A1_6 l1_6.length c1_6]] w fun e w'=>e=.returned (.bool r)∧Below w.heap.size w w':=by
 have hu34:=Try.underlying34
 have HR0_4:=Aside0.mk hr0_4
 have HC0_4:=Aside0.mk hc0_4
 clear hr0_4 hc0_4
 have HR0_5:=Aside0.mk hr0_5
 have HC0_5:=Aside0.mk hc0_5
 clear hr0_5 hc0_5
 have HR0_6:=Aside0.mk hr0_6
 have HC0_6:=Aside0.mk hc0_6
 clear hr0_6 hc0_6
 have HR1_4:=Aside0.mk hr1_4
 have HC1_4:=Aside0.mk hc1_4
 clear hr1_4 hc1_4
 have HR1_5:=Aside0.mk hr1_5
 have HC1_5:=Aside0.mk hc1_5
 clear hr1_5 hc1_5
 have HR1_6:=Aside0.mk hr1_6
 have HC1_6:=Aside0.mk hc1_6
 clear hr1_6 hc1_6
 have HB:=Aside0.mk (Below.refl w.heap.size w)
 have H:(if a0_0=a1_0 then (if a0_1=a1_1 then (if a0_2=a1_2 then (if a0_3=a1_3 then ((laws_eqGlyphS.f k l0_4 l1_4).bind fun t173=>(if t173=true then ((laws_eqKernS.f k l0_5 l1_5).bind fun t174=>(if t174=true then ((laws_eqLigS.f k l0_6 l1_6).bind fun t175=>(if t175=true then (some true) else (none))) else (none))) else (none))) else (none)) else (none)) else (none)) else (none))=some r:=h
 clear h
 by_cases c3:a0_0=a1_0
 ·rw [if_pos c3] at H
  have c3b0:(a0_0==a1_0)=true:=beq_iff_eq.mpr c3
  have c3b1:(a0_0 != a1_0)=false:=bne_eq_false_iff_eq.mpr c3
  clear c3
  by_cases c4:a0_1=a1_1
  ·rw [if_pos c4] at H
   have c4b0:(a0_1==a1_1)=true:=beq_iff_eq.mpr c4
   have c4b1:(a0_1 != a1_1)=false:=bne_eq_false_iff_eq.mpr c4
   clear c4
   by_cases c5:a0_2=a1_2
   ·rw [if_pos c5] at H
    have c5b0:(a0_2==a1_2)=true:=beq_iff_eq.mpr c5
    have c5b1:(a0_2 != a1_2)=false:=bne_eq_false_iff_eq.mpr c5
    clear c5
    by_cases c6:a0_3=a1_3
    ·rw [if_pos c6] at H
     have c6b0:(a0_3==a1_3)=true:=beq_iff_eq.mpr c6
     have c6b1:(a0_3 != a1_3)=false:=bne_eq_false_iff_eq.mpr c6
     clear c6
     replace H:=Option.bind_eq_some_iff.mp H
     obtain ⟨t173,A70,H⟩:=H
     replace H:(if t173=true then ((laws_eqKernS.f k l0_5 l1_5).bind fun t174=>(if t174=true then ((laws_eqLigS.f k l0_6 l1_6).bind fun t175=>(if t175=true then (some true) else (none))) else (none))) else (none))=some r:=H
     have A7:=Aside0.mk A70
     clear A70
     by_cases c8:t173=true
     ·subst c8
      have H1:((laws_eqKernS.f k l0_5 l1_5).bind fun t174=>(if t174=true then ((laws_eqLigS.f k l0_6 l1_6).bind fun t175=>(if t175=true then (some true) else (none))) else (none)))=some r:=by rw [if_pos rfl] at H;exact H
      clear H
      have H:=H1
      clear H1
      replace H:=Option.bind_eq_some_iff.mp H
      obtain ⟨t174,A90,H⟩:=H
      replace H:(if t174=true then ((laws_eqLigS.f k l0_6 l1_6).bind fun t175=>(if t175=true then (some true) else (none))) else (none))=some r:=H
      have A9:=Aside0.mk A90
      clear A90
      by_cases c10:t174=true
      ·subst c10
       have H1:((laws_eqLigS.f k l0_6 l1_6).bind fun t175=>(if t175=true then (some true) else (none)))=some r:=by rw [if_pos rfl] at H;exact H
       clear H
       have H:=H1
       clear H1
       replace H:=Option.bind_eq_some_iff.mp H
       obtain ⟨t175,A110,H⟩:=H
       replace H:(if t175=true then (some true) else (none))=some r:=H
       have A11:=Aside0.mk A110
       clear A110
       by_cases c12:t175=true
       ·subst c12
        have H1:(some true)=some r:=by rw [if_pos rfl] at H;exact H
        clear H
        have H:=H1
        clear H1
        obtain rfl:=Option.some.inj H
        go_enter Try.func12,Try.ntmps12
        go_wp2_with (first|((with_reducible refine gate_dst (N:=2) rfl ?_);refine box_event ?hg (N:=2) ?hd (cs:=#[.int .i64 a0_0,.int .i64 a0_1,.int .i64 a0_2,.int .i64 a0_3,.slice A0_4 l0_4.length c0_4,.slice A0_5 l0_5.length c0_5,.slice A0_6 l0_6.length c0_6]) (t:=34) ?hr ?_;(case hd=>rfl);(case hg=>rfl);(case hr=>first|(go_simp;done)|(go_simp;rfl));intro gb171 hg w13 hbox hb;have n0_:=Aside0.mk (below_step (by repeat (first|(with_reducible first|exact HB.out|apply below_alloc|apply pw_below_drewN|apply below_drew1)|exact HB.out)) hb);have n1_:=Aside0.mk (hbox);have n2_:=Aside0.mk ((by rw [hg];exact (below_size (by repeat (first|(with_reducible first|exact HB.out|apply below_alloc|apply pw_below_drewN|apply below_drew1)|exact HB.out))):w.heap.size≤gb171));have n3_:=Aside0.mk ((by rw [hg];exact (below_size (by repeat (first|(with_reducible first|exact HB.out|apply below_alloc|apply pw_below_drewN|apply below_drew1)|exact HB.out))):w.heap.size≤gb171));clear HB;have HB:=n0_;have BK171:=n1_;have GW171:=n2_;have GE171:=n3_;clear n0_ n1_ n2_ n3_;clear hb hbox hg)|((with_reducible refine gate_dst (N:=3) rfl ?_);refine box_event ?hg (N:=3) ?hd (cs:=#[.int .i64 a1_0,.int .i64 a1_1,.int .i64 a1_2,.int .i64 a1_3,.slice A1_4 l1_4.length c1_4,.slice A1_5 l1_5.length c1_5,.slice A1_6 l1_6.length c1_6]) (t:=34) ?hr ?_;(case hd=>rfl);(case hg=>rfl);(case hr=>first|(go_simp;done)|(go_simp;rfl));intro gb172 hg w14 hbox hb;have n0_:=Aside0.mk (blk_below (g:=gb171) (o:=.cells #[.int .i64 a0_0,.int .i64 a0_1,.int .i64 a0_2,.int .i64 a0_3,.slice A0_4 l0_4.length c0_4,.slice A0_5 l0_5.length c0_5,.slice A0_6 l0_6.length c0_6] 34 (0,0)) (by (with_reducible repeat (first|refine blk_drewN ?_ _|refine blk_drew ?_|refine blk_alloc ?_ _));exact BK171.out) hb);have n1_:=Aside0.mk (below_step (by repeat (first|(with_reducible first|exact HB.out|apply below_alloc|apply pw_below_drewN|apply below_drew1|refine below_set ?_ GE171.out)|exact HB.out)) hb);have n2_:=Aside0.mk (hbox);have n3_:=Aside0.mk ((by rw [hg];exact (below_size (by repeat (first|(with_reducible first|exact HB.out|apply below_alloc|apply pw_below_drewN|apply below_drew1|refine below_set ?_ GE171.out)|exact HB.out))):w.heap.size≤gb172));have n4_:=Aside0.mk ((by rw [hg];exact (below_size (by repeat (first|(with_reducible first|exact HB.out|apply below_alloc|apply pw_below_drewN|apply below_drew1|refine below_set ?_ GE171.out)|exact HB.out))):w.heap.size≤gb172));have n5_:=Aside0.mk ((by rw [hg];exact Nat.ne_of_lt (blk_lt (g:=gb171) (o:=.cells #[.int .i64 a0_0,.int .i64 a0_1,.int .i64 a0_2,.int .i64 a0_3,.slice A0_4 l0_4.length c0_4,.slice A0_5 l0_5.length c0_5,.slice A0_6 l0_6.length c0_6] 34 (0,0)) (by (with_reducible repeat (first|refine blk_drewN ?_ _|refine blk_drew ?_|refine blk_alloc ?_ _));exact BK171.out)):gb171≠gb172));have n6_:=Aside0.mk ((by rw [hg];exact Nat.ne_of_gt (blk_lt (g:=gb171) (o:=.cells #[.int .i64 a0_0,.int .i64 a0_1,.int .i64 a0_2,.int .i64 a0_3,.slice A0_4 l0_4.length c0_4,.slice A0_5 l0_5.length c0_5,.slice A0_6 l0_6.length c0_6] 34 (0,0)) (by (with_reducible repeat (first|refine blk_drewN ?_ _|refine blk_drew ?_|refine blk_alloc ?_ _));exact BK171.out)):gb172≠gb171));clear BK171;clear HB;have BK171:=n0_;have HB:=n1_;have BK172:=n2_;have GW172:=n3_;have GE172:=n4_;have NB171_172:=n5_;have NB172_171:=n6_;clear n0_ n1_ n2_ n3_ n4_ n5_ n6_;clear hb hbox hg;have hnb15:=NB171_172.out;have hnc15:=NB172_171.out;have hcz16_0:w14.cell? ⟨gb171,0,none⟩=some (.int .i64 a0_0):=(blk_cell BK171.out 0).trans rfl;have hcz16_1:w14.cell? ⟨gb171,1,none⟩=some (.int .i64 a0_1):=(blk_cell BK171.out 1).trans rfl;have hcz16_2:w14.cell? ⟨gb171,2,none⟩=some (.int .i64 a0_2):=(blk_cell BK171.out 2).trans rfl;have hcz16_3:w14.cell? ⟨gb171,3,none⟩=some (.int .i64 a0_3):=(blk_cell BK171.out 3).trans rfl;have hcz16_4:w14.cell? ⟨gb171,4,none⟩=some (.slice A0_4 l0_4.length c0_4):=(blk_cell BK171.out 4).trans rfl;have hcz16_5:w14.cell? ⟨gb171,5,none⟩=some (.slice A0_5 l0_5.length c0_5):=(blk_cell BK171.out 5).trans rfl;have hcz16_6:w14.cell? ⟨gb171,6,none⟩=some (.slice A0_6 l0_6.length c0_6):=(blk_cell BK171.out 6).trans rfl;have hfz16_0:=blk_frozen BK171.out 0;have hfz16_1:=blk_frozen BK171.out 1;have hfz16_2:=blk_frozen BK171.out 2;have hfz16_3:=blk_frozen BK171.out 3;have hfz16_4:=blk_frozen BK171.out 4;have hfz16_5:=blk_frozen BK171.out 5;have hfz16_6:=blk_frozen BK171.out 6;have hcz17_0:w14.cell? ⟨gb172,0,none⟩=some (.int .i64 a1_0):=(blk_cell BK172.out 0).trans rfl;have hcz17_1:w14.cell? ⟨gb172,1,none⟩=some (.int .i64 a1_1):=(blk_cell BK172.out 1).trans rfl;have hcz17_2:w14.cell? ⟨gb172,2,none⟩=some (.int .i64 a1_2):=(blk_cell BK172.out 2).trans rfl;have hcz17_3:w14.cell? ⟨gb172,3,none⟩=some (.int .i64 a1_3):=(blk_cell BK172.out 3).trans rfl;have hcz17_4:w14.cell? ⟨gb172,4,none⟩=some (.slice A1_4 l1_4.length c1_4):=(blk_cell BK172.out 4).trans rfl;have hcz17_5:w14.cell? ⟨gb172,5,none⟩=some (.slice A1_5 l1_5.length c1_5):=(blk_cell BK172.out 5).trans rfl;have hcz17_6:w14.cell? ⟨gb172,6,none⟩=some (.slice A1_6 l1_6.length c1_6):=(blk_cell BK172.out 6).trans rfl;have hfz17_0:=blk_frozen BK172.out 0;have hfz17_1:=blk_frozen BK172.out 1;have hfz17_2:=blk_frozen BK172.out 2;have hfz17_3:=blk_frozen BK172.out 3;have hfz17_4:=blk_frozen BK172.out 4;have hfz17_5:=blk_frozen BK172.out 5;have hfz17_6:=blk_frozen BK172.out 6)|((with_reducible refine gate_callee (f:=34) rfl ?_);refine goesL_ (some 29) rfl rfl Try.func34 (by kernel_rfl) rfl #[.slice A0_4 l0_4.length c0_4,.slice A1_4 l1_4.length c1_4] rfl (by (try simp only [List.map_toArray,List.map_cons,List.map_nil]);first|done|rfl|(simp only [List.length_drop,List.length_take];rfl)) ?_;(with_reducible refine (laws_eqGlyphS.calls k _ _ l0_4 _ _ l1_4 true _ ?side1 ?side2 ?side3 ?side4 A7.out).mono ?_);(case side1=>repeat (first|exact (Kd.C_below HR0_4.out HB.out)|(with_reducible refine Kd.C_alloc ?_ _)|(with_reducible refine Kd.C_drewN ?_ _)|(with_reducible refine Kd.C_drew ?_)));(case side2=>exact HC0_4.out);(case side3=>repeat (first|exact (Kd.C_below HR1_4.out HB.out)|(with_reducible refine Kd.C_alloc ?_ _)|(with_reducible refine Kd.C_drewN ?_ _)|(with_reducible refine Kd.C_drew ?_)));(case side4=>exact HC1_4.out);rintro e w18 ⟨rfl,hb⟩;refine ⟨_,rfl,?_⟩;have n0_:=Aside0.mk (blk_below (g:=gb171) (o:=.cells #[.int .i64 a0_0,.int .i64 a0_1,.int .i64 a0_2,.int .i64 a0_3,.slice A0_4 l0_4.length c0_4,.slice A0_5 l0_5.length c0_5,.slice A0_6 l0_6.length c0_6] 34 (0,0)) (by (with_reducible repeat (first|refine blk_drewN ?_ _|refine blk_drew ?_|refine blk_alloc ?_ _));exact BK171.out) hb);have n1_:=Aside0.mk (blk_below (g:=gb172) (o:=.cells #[.int .i64 a1_0,.int .i64 a1_1,.int .i64 a1_2,.int .i64 a1_3,.slice A1_4 l1_4.length c1_4,.slice A1_5 l1_5.length c1_5,.slice A1_6 l1_6.length c1_6] 34 (0,0)) (by (with_reducible repeat (first|refine blk_drewN ?_ _|refine blk_drew ?_|refine blk_alloc ?_ _));exact BK172.out) hb);have n2_:=Aside0.mk (below_step (by repeat (first|(with_reducible first|exact HB.out|apply below_alloc|apply pw_below_drewN|apply below_drew1|refine below_set ?_ GE171.out|refine below_set ?_ GE172.out)|exact HB.out)) hb);clear BK171;clear BK172;clear HB;have BK171:=n0_;have BK172:=n1_;have HB:=n2_;clear n0_ n1_ n2_;(try clear hb);(try clear hb2);(try clear hk);(try clear hi);have hcz19_0:w18.cell? ⟨gb171,0,none⟩=some (.int .i64 a0_0):=(blk_cell BK171.out 0).trans rfl;have hcz19_1:w18.cell? ⟨gb171,1,none⟩=some (.int .i64 a0_1):=(blk_cell BK171.out 1).trans rfl;have hcz19_2:w18.cell? ⟨gb171,2,none⟩=some (.int .i64 a0_2):=(blk_cell BK171.out 2).trans rfl;have hcz19_3:w18.cell? ⟨gb171,3,none⟩=some (.int .i64 a0_3):=(blk_cell BK171.out 3).trans rfl;have hcz19_4:w18.cell? ⟨gb171,4,none⟩=some (.slice A0_4 l0_4.length c0_4):=(blk_cell BK171.out 4).trans rfl;have hcz19_5:w18.cell? ⟨gb171,5,none⟩=some (.slice A0_5 l0_5.length c0_5):=(blk_cell BK171.out 5).trans rfl;have hcz19_6:w18.cell? ⟨gb171,6,none⟩=some (.slice A0_6 l0_6.length c0_6):=(blk_cell BK171.out 6).trans rfl;have hfz19_0:=blk_frozen BK171.out 0;have hfz19_1:=blk_frozen BK171.out 1;have hfz19_2:=blk_frozen BK171.out 2;have hfz19_3:=blk_frozen BK171.out 3;have hfz19_4:=blk_frozen BK171.out 4;have hfz19_5:=blk_frozen BK171.out 5;have hfz19_6:=blk_frozen BK171.out 6;have hcz20_0:w18.cell? ⟨gb172,0,none⟩=some (.int .i64 a1_0):=(blk_cell BK172.out 0).trans rfl;have hcz20_1:w18.cell? ⟨gb172,1,none⟩=some (.int .i64 a1_1):=(blk_cell BK172.out 1).trans rfl;have hcz20_2:w18.cell? ⟨gb172,2,none⟩=some (.int .i64 a1_2):=(blk_cell BK172.out 2).trans rfl;have hcz20_3:w18.cell? ⟨gb172,3,none⟩=some (.int .i64 a1_3):=(blk_cell BK172.out 3).trans rfl;have hcz20_4:w18.cell? ⟨gb172,4,none⟩=some (.slice A1_4 l1_4.length c1_4):=(blk_cell BK172.out 4).trans rfl;have hcz20_5:w18.cell? ⟨gb172,5,none⟩=some (.slice A1_5 l1_5.length c1_5):=(blk_cell BK172.out 5).trans rfl;have hcz20_6:w18.cell? ⟨gb172,6,none⟩=some (.slice A1_6 l1_6.length c1_6):=(blk_cell BK172.out 6).trans rfl;have hfz20_0:=blk_frozen BK172.out 0;have hfz20_1:=blk_frozen BK172.out 1;have hfz20_2:=blk_frozen BK172.out 2;have hfz20_3:=blk_frozen BK172.out 3;have hfz20_4:=blk_frozen BK172.out 4;have hfz20_5:=blk_frozen BK172.out 5;have hfz20_6:=blk_frozen BK172.out 6)|((with_reducible refine gate_callee (f:=35) rfl ?_);refine goesL_ (some 35) rfl rfl Try.func35 (by kernel_rfl) rfl #[.slice A0_5 l0_5.length c0_5,.slice A1_5 l1_5.length c1_5] rfl (by (try simp only [List.map_toArray,List.map_cons,List.map_nil]);first|done|rfl|(simp only [List.length_drop,List.length_take];rfl)) ?_;(with_reducible refine (laws_eqKernS.calls k _ _ l0_5 _ _ l1_5 true _ ?side1 ?side2 ?side3 ?side4 A9.out).mono ?_);(case side1=>repeat (first|exact (Kd.C_below HR0_5.out HB.out)|(with_reducible refine Kd.C_alloc ?_ _)|(with_reducible refine Kd.C_drewN ?_ _)|(with_reducible refine Kd.C_drew ?_)));(case side2=>exact HC0_5.out);(case side3=>repeat (first|exact (Kd.C_below HR1_5.out HB.out)|(with_reducible refine Kd.C_alloc ?_ _)|(with_reducible refine Kd.C_drewN ?_ _)|(with_reducible refine Kd.C_drew ?_)));(case side4=>exact HC1_5.out);rintro e w21 ⟨rfl,hb⟩;refine ⟨_,rfl,?_⟩;have n0_:=Aside0.mk (blk_below (g:=gb171) (o:=.cells #[.int .i64 a0_0,.int .i64 a0_1,.int .i64 a0_2,.int .i64 a0_3,.slice A0_4 l0_4.length c0_4,.slice A0_5 l0_5.length c0_5,.slice A0_6 l0_6.length c0_6] 34 (0,0)) (by (with_reducible repeat (first|refine blk_drewN ?_ _|refine blk_drew ?_|refine blk_alloc ?_ _));exact BK171.out) hb);have n1_:=Aside0.mk (blk_below (g:=gb172) (o:=.cells #[.int .i64 a1_0,.int .i64 a1_1,.int .i64 a1_2,.int .i64 a1_3,.slice A1_4 l1_4.length c1_4,.slice A1_5 l1_5.length c1_5,.slice A1_6 l1_6.length c1_6] 34 (0,0)) (by (with_reducible repeat (first|refine blk_drewN ?_ _|refine blk_drew ?_|refine blk_alloc ?_ _));exact BK172.out) hb);have n2_:=Aside0.mk (below_step (by repeat (first|(with_reducible first|exact HB.out|apply below_alloc|apply pw_below_drewN|apply below_drew1|refine below_set ?_ GE171.out|refine below_set ?_ GE172.out)|exact HB.out)) hb);clear BK171;clear BK172;clear HB;have BK171:=n0_;have BK172:=n1_;have HB:=n2_;clear n0_ n1_ n2_;(try clear hb);(try clear hb2);(try clear hk);(try clear hi);have hcz22_0:w21.cell? ⟨gb171,0,none⟩=some (.int .i64 a0_0):=(blk_cell BK171.out 0).trans rfl;have hcz22_1:w21.cell? ⟨gb171,1,none⟩=some (.int .i64 a0_1):=(blk_cell BK171.out 1).trans rfl;have hcz22_2:w21.cell? ⟨gb171,2,none⟩=some (.int .i64 a0_2):=(blk_cell BK171.out 2).trans rfl;have hcz22_3:w21.cell? ⟨gb171,3,none⟩=some (.int .i64 a0_3):=(blk_cell BK171.out 3).trans rfl;have hcz22_4:w21.cell? ⟨gb171,4,none⟩=some (.slice A0_4 l0_4.length c0_4):=(blk_cell BK171.out 4).trans rfl;have hcz22_5:w21.cell? ⟨gb171,5,none⟩=some (.slice A0_5 l0_5.length c0_5):=(blk_cell BK171.out 5).trans rfl;have hcz22_6:w21.cell? ⟨gb171,6,none⟩=some (.slice A0_6 l0_6.length c0_6):=(blk_cell BK171.out 6).trans rfl;have hfz22_0:=blk_frozen BK171.out 0;have hfz22_1:=blk_frozen BK171.out 1;have hfz22_2:=blk_frozen BK171.out 2;have hfz22_3:=blk_frozen BK171.out 3;have hfz22_4:=blk_frozen BK171.out 4;have hfz22_5:=blk_frozen BK171.out 5;have hfz22_6:=blk_frozen BK171.out 6;have hcz23_0:w21.cell? ⟨gb172,0,none⟩=some (.int .i64 a1_0):=(blk_cell BK172.out 0).trans rfl;have hcz23_1:w21.cell? ⟨gb172,1,none⟩=some (.int .i64 a1_1):=(blk_cell BK172.out 1).trans rfl;have hcz23_2:w21.cell? ⟨gb172,2,none⟩=some (.int .i64 a1_2):=(blk_cell BK172.out 2).trans rfl;have hcz23_3:w21.cell? ⟨gb172,3,none⟩=some (.int .i64 a1_3):=(blk_cell BK172.out 3).trans rfl;have hcz23_4:w21.cell? ⟨gb172,4,none⟩=some (.slice A1_4 l1_4.length c1_4):=(blk_cell BK172.out 4).trans rfl;have hcz23_5:w21.cell? ⟨gb172,5,none⟩=some (.slice A1_5 l1_5.length c1_5):=(blk_cell BK172.out 5).trans rfl;have hcz23_6:w21.cell? ⟨gb172,6,none⟩=some (.slice A1_6 l1_6.length c1_6):=(blk_cell BK172.out 6).trans rfl;have hfz23_0:=blk_frozen BK172.out 0;have hfz23_1:=blk_frozen BK172.out 1;have hfz23_2:=blk_frozen BK172.out 2;have hfz23_3:=blk_frozen BK172.out 3;have hfz23_4:=blk_frozen BK172.out 4;have hfz23_5:=blk_frozen BK172.out 5;have hfz23_6:=blk_frozen BK172.out 6)|((with_reducible refine gate_callee (f:=36) rfl ?_);refine goesL_ (some 41) rfl rfl Try.func36 (by kernel_rfl) rfl #[.slice A0_6 l0_6.length c0_6,.slice A1_6 l1_6.length c1_6] rfl (by (try simp only [List.map_toArray,List.map_cons,List.map_nil]);first|done|rfl|(simp only [List.length_drop,List.length_take];rfl)) ?_;(with_reducible refine (laws_eqLigS.calls k _ _ l0_6 _ _ l1_6 true _ ?side1 ?side2 ?side3 ?side4 A11.out).mono ?_);(case side1=>repeat (first|exact (Kd.C_below HR0_6.out HB.out)|(with_reducible refine Kd.C_alloc ?_ _)|(with_reducible refine Kd.C_drewN ?_ _)|(with_reducible refine Kd.C_drew ?_)));(case side2=>exact HC0_6.out);(case side3=>repeat (first|exact (Kd.C_below HR1_6.out HB.out)|(with_reducible refine Kd.C_alloc ?_ _)|(with_reducible refine Kd.C_drewN ?_ _)|(with_reducible refine Kd.C_drew ?_)));(case side4=>exact HC1_6.out);rintro e w24 ⟨rfl,hb⟩;refine ⟨_,rfl,?_⟩;have n0_:=Aside0.mk (blk_below (g:=gb171) (o:=.cells #[.int .i64 a0_0,.int .i64 a0_1,.int .i64 a0_2,.int .i64 a0_3,.slice A0_4 l0_4.length c0_4,.slice A0_5 l0_5.length c0_5,.slice A0_6 l0_6.length c0_6] 34 (0,0)) (by (with_reducible repeat (first|refine blk_drewN ?_ _|refine blk_drew ?_|refine blk_alloc ?_ _));exact BK171.out) hb);have n1_:=Aside0.mk (blk_below (g:=gb172) (o:=.cells #[.int .i64 a1_0,.int .i64 a1_1,.int .i64 a1_2,.int .i64 a1_3,.slice A1_4 l1_4.length c1_4,.slice A1_5 l1_5.length c1_5,.slice A1_6 l1_6.length c1_6] 34 (0,0)) (by (with_reducible repeat (first|refine blk_drewN ?_ _|refine blk_drew ?_|refine blk_alloc ?_ _));exact BK172.out) hb);have n2_:=Aside0.mk (below_step (by repeat (first|(with_reducible first|exact HB.out|apply below_alloc|apply pw_below_drewN|apply below_drew1|refine below_set ?_ GE171.out|refine below_set ?_ GE172.out)|exact HB.out)) hb);clear BK171;clear BK172;clear HB;have BK171:=n0_;have BK172:=n1_;have HB:=n2_;clear n0_ n1_ n2_;(try clear hb);(try clear hb2);(try clear hk);(try clear hi)))
        go_ret
        exact ⟨by first|rfl|(simp [errW_none,errW_some]<;>rfl)|(simp [*,errW_none,errW_some]<;>rfl),by repeat (first|(with_reducible first|exact HB.out|apply below_alloc|apply pw_below_drewN|apply below_drew1|refine below_set ?_ GE171.out|refine below_set ?_ GE172.out)|exact HB.out)⟩
       ·replace c12:=Bool.eq_false_iff.mpr c12
        subst c12
        exact absurd H (by simp)
      ·replace c10:=Bool.eq_false_iff.mpr c10
       subst c10
       exact absurd H (by simp)
     ·replace c8:=Bool.eq_false_iff.mpr c8
      subst c8
      exact absurd H (by simp)
    ·rw [if_neg c6] at H
     exact absurd H (by simp)
   ·rw [if_neg c5] at H
    exact absurd H (by simp)
  ·rw [if_neg c4] at H
   exact absurd H (by simp)
 ·rw [if_neg c3] at H
  exact absurd H (by simp)
/-! ### spec_l12In: function 52 -/
def spec_l12In.f (a0:Int) (a1:Int) (a2:Int):Option (Bool):=if a0≥a1 then (some (decide (a0≤a2))) else (some false)
set_option maxHeartbeats 8000000 in
set_option maxRecDepth 100000 in
theorem spec_l12In.calls (a0:Int) (a1:Int) (a2:Int) (r:Bool) (w:World) (h:spec_l12In.f a0 a1 a2=some r) :
  Calls Try.prog 52 #[.int .i64 a0,.int .i64 a1,.int .i64 a2] w fun e w'=>e=.returned (.bool r)∧Drawn0 w w':=by
 have H:(if a0≥a1 then (some (decide (a0≤a2))) else (some false))=some r:=h
 clear h
 by_cases c4:a0≥a1
 ·rw [if_pos c4] at H
  have c4b0:decide (a1≤a0)=true:=decide_eq_true c4
  clear c4
  obtain rfl:=Option.some.inj H
  go_enter Try.func52,Try.ntmps52
  go_wp2
  go_ret
  exact ⟨by first|rfl|(simp;done)|(simp [*];done),by repeat (first|exact Drawn0.refl _|apply Drawn0.step)⟩
 ·rw [if_neg c4] at H
  have c4b0:decide (a1≤a0)=false:=decide_eq_false c4
  clear c4
  obtain rfl:=Option.some.inj H
  go_enter Try.func52,Try.ntmps52
  go_wp2
  go_ret
  exact ⟨by first|rfl|(simp;done)|(simp [*];done),by repeat (first|exact Drawn0.refl _|apply Drawn0.step)⟩
/-! ### spec_l12Less: function 53 -/
def spec_l12Less.f (a0:Int) (a1:Int) (a2:Int) (a3:Int):Option (Bool):=if a0<a2 then (some true) else (if a0=a2 then (some (decide (a1<a3))) else (some false))
set_option maxHeartbeats 8000000 in
set_option maxRecDepth 100000 in
theorem spec_l12Less.calls (a0:Int) (a1:Int) (a2:Int) (a3:Int) (r:Bool) (w:World) (h:spec_l12Less.f a0 a1 a2 a3=some r) :
  Calls Try.prog 53 #[.int .i64 a0,.int .i64 a1,.int .i64 a2,.int .i64 a3] w fun e w'=>e=.returned (.bool r)∧Drawn0 w w':=by
 have H:(if a0<a2 then (some true) else (if a0=a2 then (some (decide (a1<a3))) else (some false)))=some r:=h
 clear h
 by_cases c5:a0<a2
 ·rw [if_pos c5] at H
  have c5b0:decide (a0<a2)=true:=decide_eq_true c5
  clear c5
  obtain rfl:=Option.some.inj H
  go_enter Try.func53,Try.ntmps53
  go_wp2
  go_ret
  exact ⟨by first|rfl|(simp;done)|(simp [*];done),by repeat (first|exact Drawn0.refl _|apply Drawn0.step)⟩
 ·rw [if_neg c5] at H
  have c5b0:decide (a0<a2)=false:=decide_eq_false c5
  clear c5
  by_cases c6:a0=a2
  ·rw [if_pos c6] at H
   have c6b0:(a0==a2)=true:=beq_iff_eq.mpr c6
   have c6b1:(a0 != a2)=false:=bne_eq_false_iff_eq.mpr c6
   clear c6
   obtain rfl:=Option.some.inj H
   go_enter Try.func53,Try.ntmps53
   go_wp2
   go_ret
   exact ⟨by first|rfl|(simp;done)|(simp [*];done),by repeat (first|exact Drawn0.refl _|apply Drawn0.step)⟩
  ·rw [if_neg c6] at H
   have c6b0:(a0==a2)=false:=beq_eq_false_iff_ne.mpr c6
   have c6b1:(a0 != a2)=true:=bne_iff_ne.mpr c6
   obtain rfl:=Option.some.inj H
   go_enter Try.func53,Try.ntmps53
   go_wp2
   go_ret
   exact ⟨by first|rfl|(simp;done)|(simp [*];done),by repeat (first|exact Drawn0.refl _|apply Drawn0.step)⟩
end Go.Proofs.Ytiinihponcojkaa.QFnExactAdvance
