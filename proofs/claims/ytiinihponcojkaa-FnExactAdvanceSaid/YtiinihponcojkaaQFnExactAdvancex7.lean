/- Written by a program (wip/tools/own_print.py) out of the walk that the kit's printer made; turned where it fell. -/
-- PRINTED by print.py (a twelfth state) out of the translation. Not trusted: Lean checks it.
import Derived.Test.YtiinihponcojkaaQFnExactAdvancex0
namespace Go.Proofs.Ytiinihponcojkaa.QFnExactAdvance
open Go.RowKit Go.Proofs.YtiinihponcojkaaV.PrintWords Go.Proofs.YtiinihponcojkaaV.PrintLast Go.Proofs.YtiinihponcojkaaV.PrintMore
attribute [local go_sem] max2_int min2_int max_two min_two max_three min_three max_four min_four   -- for this text's walks alone
set_option linter.unusedVariables false
set_option linter.unusedSimpArgs false
/-! ### spec_l9Floor: function 41 -/
def spec_l9Floor.f (a0:Int) (a1:Int):Option (Int):=if a1=0 then (none) else (if (Int.tmod a0 a1)=0 then (some (wrap64 (Int.tdiv a0 a1))) else (if ((decide (a0<0)) != (decide (a1<0)))=true then (some (wrap64 ((wrap64 (Int.tdiv a0 a1)) - 1))) else (some (wrap64 (Int.tdiv a0 a1)))))
set_option maxHeartbeats 8000000 in
set_option maxRecDepth 100000 in
theorem spec_l9Floor.calls (a0:Int) (a1:Int) (r:Int) (w:World) (h:spec_l9Floor.f a0 a1=some r) :
  Calls Try.prog 41 #[.int .i64 a0,.int .i64 a1] w fun e w'=>e=.returned (.int .i64 r)∧Drawn0 w w':=by
 have H:(if a1=0 then (none) else (if (Int.tmod a0 a1)=0 then (some (wrap64 (Int.tdiv a0 a1))) else (if ((decide (a0<0)) != (decide (a1<0)))=true then (some (wrap64 ((wrap64 (Int.tdiv a0 a1)) - 1))) else (some (wrap64 (Int.tdiv a0 a1))))))=some r:=h
 clear h
 by_cases c3:a1=0
 ·rw [if_pos c3] at H
  exact absurd H (by simp)
 ·rw [if_neg c3] at H
  have c3b0:(a1==0)=false:=beq_eq_false_iff_ne.mpr c3
  have c3b1:(a1 != 0)=true:=bne_iff_ne.mpr c3
  by_cases c4:(Int.tmod a0 a1)=0
  ·rw [if_pos c4] at H
   have c4b0:((Int.tmod a0 a1)==0)=true:=beq_iff_eq.mpr c4
   have c4b1:((Int.tmod a0 a1) != 0)=false:=bne_eq_false_iff_eq.mpr c4
   clear c4
   obtain rfl:=Option.some.inj H
   go_enter Try.func41,Try.ntmps41
   go_wp2
   go_ret
   exact ⟨by first|rfl|(simp;done)|(simp [*];done),by repeat (first|exact Drawn0.refl _|apply Drawn0.step)⟩
  ·rw [if_neg c4] at H
   have c4b0:((Int.tmod a0 a1)==0)=false:=beq_eq_false_iff_ne.mpr c4
   have c4b1:((Int.tmod a0 a1) != 0)=true:=bne_iff_ne.mpr c4
   by_cases c5:((decide (a0<0)) != (decide (a1<0)))=true
   ·rw [if_pos c5] at H
    have c5b0:((decide (a0<0)) != (decide (a1<0)))=true:=c5
    (try (have c5b1:decide ((decide (a0<0))=(decide (a1<0)))=false:=by simpa using c5))
    (try (have c5b2:((decide (a0<0))==(decide (a1<0)))=false:=by simpa using c5))
    (try (have c5b3:¬ ((decide (a0<0))=(decide (a1<0))):=by simpa using c5))
    clear c5
    obtain rfl:=Option.some.inj H
    go_enter Try.func41,Try.ntmps41
    go_wp2
    go_ret
    exact ⟨by first|rfl|(simp;done)|(simp [*];done),by repeat (first|exact Drawn0.refl _|apply Drawn0.step)⟩
   ·rw [if_neg c5] at H
    have c5b0:((decide (a0<0)) != (decide (a1<0)))=false:=by simpa using c5
    (try (have c5b1:decide ((decide (a0<0))=(decide (a1<0)))=true:=by simpa using c5))
    (try (have c5b2:((decide (a0<0))==(decide (a1<0)))=true:=by simpa using c5))
    clear c5
    obtain rfl:=Option.some.inj H
    go_enter Try.func41,Try.ntmps41
    go_wp2
    go_ret
    exact ⟨by first|rfl|(simp;done)|(simp [*];done),by repeat (first|exact Drawn0.refl _|apply Drawn0.step)⟩
/-! ### spec_l12Advance: function 42 -/
def spec_l12Advance.l0:Nat→Int→Int→Int→Int→Int→Int→List (S79)→List (S81)→List (S84)→Option (Int)
 |0,_,_,_,_,_,_,_,_,_=>none
 |k+1,x1,x5,x217000,x217001,x217002,x217003,x217004,x217005,x217006=>if x5<(x217004.length:Int) then (if 0≤x5 then (if ((rd_T79 x217004 x5).f0)=x1 then (some ((rd_T79 x217004 x5).f1)) else (spec_l12Advance.l0 k x1 (wrap64 (x5+1)) x217000 x217001 x217002 x217003 x217004 x217005 x217006)) else (none)) else (some x217003)
def spec_l12Advance.f (k:Nat) (a0_0:Int) (a0_1:Int) (a0_2:Int) (a0_3:Int) (l0_4:List (S79)) (l0_5:List (S81)) (l0_6:List (S84)) (a1:Int):Option (Int):=spec_l12Advance.l0 k a1 0 a0_0 a0_1 a0_2 a0_3 l0_4 l0_5 l0_6
theorem spec_l12Advance.mono_l:∀ k,(∀ y0 y1 y2 y3 y4 y5 y6 y7 y8,LeO (spec_l12Advance.l0 k y0 y1 y2 y3 y4 y5 y6 y7 y8) (spec_l12Advance.l0 (k+1) y0 y1 y2 y3 y4 y5 y6 y7 y8))
 |0=>fun _ _ _ _ _ _ _ _ _ r h=>by simp [spec_l12Advance.l0] at h
 |k+1=>by
  have ih0:=spec_l12Advance.mono_l k
  ·intro y0 y1 y2 y3 y4 y5 y6 y7 y8
   unfold spec_l12Advance.l0
   repeat' first
   |(with_reducible exact ih0 _ _ _ _ _ _ _ _ _)
   |(with_reducible exact LeO.refl _)
   |(with_reducible exact LeO.none _)
   |(with_reducible refine LeO.ite ?_ ?_)
   |(with_reducible refine LeO.bind ?_ (fun _=>?_))
   |exact ih0 _ _ _ _ _ _ _ _ _
   |exact LeO.none _
   |refine LeO.ite ?_ ?_
   |refine LeO.bind ?_ (fun _=>?_)
theorem spec_l12Advance.mono:∀ a0 a1 a2 a3 a4 a5 a6 a7 k,LeO (spec_l12Advance.f k a0 a1 a2 a3 a4 a5 a6 a7) (spec_l12Advance.f (k+1) a0 a1 a2 a3 a4 a5 a6 a7):=by
 intro a0 a1 a2 a3 a4 a5 a6 a7 k
 have ih0:=spec_l12Advance.mono_l k
 unfold spec_l12Advance.f
 repeat' first
   |(with_reducible exact ih0 _ _ _ _ _ _ _ _ _)
   |(with_reducible exact LeO.refl _)
   |(with_reducible exact LeO.none _)
   |(with_reducible refine LeO.ite ?_ ?_)
   |(with_reducible refine LeO.bind ?_ (fun _=>?_))
   |exact ih0 _ _ _ _ _ _ _ _ _
   |exact LeO.none _
   |refine LeO.ite ?_ ?_
   |refine LeO.bind ?_ (fun _=>?_)
set_option maxHeartbeats 8000000 in
set_option maxRecDepth 100000 in
theorem spec_l12Advance.calls (k:Nat) (a0_0:Int) (a0_1:Int) (a0_2:Int) (a0_3:Int) (A0_4:Option Addr) (c0_4:Nat) (l0_4:List (S79)) (A0_5:Option Addr) (c0_5:Nat) (l0_5:List (S81)) (A0_6:Option Addr) (c0_6:Nat) (l0_6:List (S84)) (a1:Int) (r:Int) (w:World) (hr0_4:Kd.C k79 w A0_4 l0_4.length l0_4) (hc0_4:l0_4.length≤c0_4) (hr0_5:Kd.C k81 w A0_5 l0_5.length l0_5) (hc0_5:l0_5.length≤c0_5) (hr0_6:Kd.C k84 w A0_6 l0_6.length l0_6) (hc0_6:l0_6.length≤c0_6) (h:spec_l12Advance.f k a0_0 a0_1 a0_2 a0_3 l0_4 l0_5 l0_6 a1=some r) :
  Calls Try.prog 42 #[.agg #[.int .i64 a0_0,.int .i64 a0_1,.int .i64 a0_2,.int .i64 a0_3,.slice A0_4 l0_4.length c0_4,.slice A0_5 l0_5.length c0_5,.slice A0_6 l0_6.length c0_6],.int .i64 a1] w fun e w'=>e=.returned (.int .i64 r)∧Below w.heap.size w w':=by
 have hu34:=Try.underlying34
 have HR0_4:=Aside0.mk hr0_4
 have HC0_4:=Aside0.mk hc0_4
 clear hr0_4 hc0_4
 have HR0_5:=Aside0.mk hr0_5
 have HC0_5:=Aside0.mk hc0_5
 clear hr0_5 hc0_5
 have HR0_6:=Aside0.mk hr0_6
 have HC0_6:=Aside0.mk hc0_6
 clear hr0_6 hc0_6
 have HB:=Aside0.mk (Below.refl w.heap.size w)
 have H:(spec_l12Advance.l0 k a1 0 a0_0 a0_1 a0_2 a0_3 l0_4 l0_5 l0_6)=some r:=h
 clear h
 have H':=Aside0.mk H
 clear H
 go_enter Try.func42,Try.ntmps42
 go_wp2_with (first|((with_reducible refine gate_dst (N:=2) rfl ?_);refine box_event ?hg (N:=2) ?hd (cs:=#[.int .i64 a0_0,.int .i64 a0_1,.int .i64 a0_2,.int .i64 a0_3,.slice A0_4 l0_4.length c0_4,.slice A0_5 l0_5.length c0_5,.slice A0_6 l0_6.length c0_6]) (t:=34) ?hr ?_;(case hd=>rfl);(case hg=>rfl);(case hr=>first|(go_simp;done)|(go_simp;rfl));intro gb216 hg w3 hbox hb;have n0_:=Aside0.mk (below_step (by repeat (first|(with_reducible first|exact HB.out|apply below_alloc|apply pw_below_drewN|apply below_drew1)|exact HB.out)) hb);have n1_:=Aside0.mk (hbox);have n2_:=Aside0.mk ((by rw [hg];exact (below_size (by repeat (first|(with_reducible first|exact HB.out|apply below_alloc|apply pw_below_drewN|apply below_drew1)|exact HB.out))):w.heap.size≤gb216));have n3_:=Aside0.mk ((by rw [hg];exact (below_size (by repeat (first|(with_reducible first|exact HB.out|apply below_alloc|apply pw_below_drewN|apply below_drew1)|exact HB.out))):w.heap.size≤gb216));clear HB;have HB:=n0_;have BK216:=n1_;have GW216:=n2_;have GE216:=n3_;clear n0_ n1_ n2_ n3_;clear hb hbox hg))
 go_loopg [5] k (fun kq v5 w'=>∃ (x5_1:Int),v5=.int .i64 x5_1∧Aside0 (spec_l12Advance.l0 kq a1 x5_1 a0_0 a0_1 a0_2 a0_3 l0_4 l0_5 l0_6=some r)∧Aside0 (kq≤k)∧Aside0 (w'.heap[gb216]?=some (.cells #[.int .i64 a0_0,.int .i64 a0_1,.int .i64 a0_2,.int .i64 a0_3,(.slice A0_4 l0_4.length c0_4),(.slice A0_5 l0_5.length c0_5),(.slice A0_6 l0_6.length c0_6)] 34 (0,0)))∧Aside0 (Below w.heap.size w w'))
 case atStart=>exact ⟨(0),(by first|rfl|(simp;done)|(simp [*];done)),H',⟨Nat.le_refl _⟩,⟨by (with_reducible repeat (first|refine blk_drewN ?_ _|refine blk_drew ?_|refine blk_alloc ?_ _));exact BK216.out⟩,⟨by repeat (first|(with_reducible first|exact HB.out|apply below_alloc|apply pw_below_drewN|apply below_drew1|refine below_set ?_ GE216.out)|exact HB.out)⟩⟩
 case round=>
  clear H'
  try clear p2
  obtain ⟨x5_1,rfl,HA,HK1,BK216,HB⟩:=hrel
  cases gk with
  |zero=>exact absurd HA.out (by simp [spec_l12Advance.l0])
  |succ k1=>
   have H:=HA.out
   clear HA
   simp only [spec_l12Advance.l0] at H
   by_cases c4:x5_1<(l0_4.length:Int)
   ·rw [if_pos c4] at H
    have c4b0:decide (x5_1<(l0_4.length:Int))=true:=decide_eq_true c4
    clear c4
    by_cases c5:0≤x5_1
    ·rw [if_pos c5] at H
     have c5b0:decide (0≤x5_1)=true:=decide_eq_true c5
     clear c5
     by_cases c6:((rd_T79 l0_4 x5_1).f0)=a1
     ·rw [if_pos c6] at H
      have c6b0:(((rd_T79 l0_4 x5_1).f0)==a1)=true:=beq_iff_eq.mpr c6
      have c6b1:(((rd_T79 l0_4 x5_1).f0) != a1)=false:=bne_eq_false_iff_eq.mpr c6
      clear c6
      obtain rfl:=Option.some.inj H
      have hcz7_0:wr.cell? ⟨gb216,0,none⟩=some (.int .i64 a0_0):=(blk_cell BK216.out 0).trans rfl
      have hcz7_1:wr.cell? ⟨gb216,1,none⟩=some (.int .i64 a0_1):=(blk_cell BK216.out 1).trans rfl
      have hcz7_2:wr.cell? ⟨gb216,2,none⟩=some (.int .i64 a0_2):=(blk_cell BK216.out 2).trans rfl
      have hcz7_3:wr.cell? ⟨gb216,3,none⟩=some (.int .i64 a0_3):=(blk_cell BK216.out 3).trans rfl
      have hcz7_4:wr.cell? ⟨gb216,4,none⟩=some (.slice A0_4 l0_4.length c0_4):=(blk_cell BK216.out 4).trans rfl
      have hcz7_5:wr.cell? ⟨gb216,5,none⟩=some (.slice A0_5 l0_5.length c0_5):=(blk_cell BK216.out 5).trans rfl
      have hcz7_6:wr.cell? ⟨gb216,6,none⟩=some (.slice A0_6 l0_6.length c0_6):=(blk_cell BK216.out 6).trans rfl
      have hfz7_0:=blk_frozen BK216.out 0
      have hfz7_1:=blk_frozen BK216.out 1
      have hfz7_2:=blk_frozen BK216.out 2
      have hfz7_3:=blk_frozen BK216.out 3
      have hfz7_4:=blk_frozen BK216.out 4
      have hfz7_5:=blk_frozen BK216.out 5
      have hfz7_6:=blk_frozen BK216.out 6
      have p217:0≤(x5_1:Int):=of_decide_eq_true (by first|(with_reducible assumption)|assumption)
      have q217:x5_1<(l0_4.length:Int):=of_decide_eq_true (by first|(with_reducible assumption)|assumption)
      obtain ⟨ad217,e217,hx217_0,hx217_1⟩:=at_T79 HR0_4.out x5_1 p217 q217
      cases e217
      replace hx217_0:=(HB.out.cell (World.block_lt_of_cell? w _ hx217_0)).trans hx217_0
      replace hx217_1:=(HB.out.cell (World.block_lt_of_cell? w _ hx217_1)).trans hx217_1
      replace p217:=eq_true p217
      replace q217:=eq_true q217
      have p218:0≤(x5_1:Int):=of_decide_eq_true (by first|(with_reducible assumption)|assumption)
      have q218:x5_1<(l0_4.length:Int):=of_decide_eq_true (by first|(with_reducible assumption)|assumption)
      obtain ⟨ad218,e218,hx218_0,hx218_1⟩:=at_T79 HR0_4.out x5_1 p218 q218
      obtain rfl:ad217=ad218:=(by injection e218)
      replace hx218_0:=(HB.out.cell (World.block_lt_of_cell? w _ hx218_0)).trans hx218_0
      replace hx218_1:=(HB.out.cell (World.block_lt_of_cell? w _ hx218_1)).trans hx218_1
      replace p218:=eq_true p218
      replace q218:=eq_true q218
      go_wp2
      go_ret
      exact ⟨by first|rfl|(simp [errW_none,errW_some]<;>rfl)|(simp [*,errW_none,errW_some]<;>rfl),by repeat (first|(with_reducible first|exact HB.out|apply below_alloc|apply pw_below_drewN|apply below_drew1|refine below_set ?_ GE216.out)|exact HB.out)⟩
     ·rw [if_neg c6] at H
      have c6b0:(((rd_T79 l0_4 x5_1).f0)==a1)=false:=beq_eq_false_iff_ne.mpr c6
      have c6b1:(((rd_T79 l0_4 x5_1).f0) != a1)=true:=bne_iff_ne.mpr c6
      have H':=Aside0.mk H
      clear H
      have hcz8_0:wr.cell? ⟨gb216,0,none⟩=some (.int .i64 a0_0):=(blk_cell BK216.out 0).trans rfl
      have hcz8_1:wr.cell? ⟨gb216,1,none⟩=some (.int .i64 a0_1):=(blk_cell BK216.out 1).trans rfl
      have hcz8_2:wr.cell? ⟨gb216,2,none⟩=some (.int .i64 a0_2):=(blk_cell BK216.out 2).trans rfl
      have hcz8_3:wr.cell? ⟨gb216,3,none⟩=some (.int .i64 a0_3):=(blk_cell BK216.out 3).trans rfl
      have hcz8_4:wr.cell? ⟨gb216,4,none⟩=some (.slice A0_4 l0_4.length c0_4):=(blk_cell BK216.out 4).trans rfl
      have hcz8_5:wr.cell? ⟨gb216,5,none⟩=some (.slice A0_5 l0_5.length c0_5):=(blk_cell BK216.out 5).trans rfl
      have hcz8_6:wr.cell? ⟨gb216,6,none⟩=some (.slice A0_6 l0_6.length c0_6):=(blk_cell BK216.out 6).trans rfl
      have hfz8_0:=blk_frozen BK216.out 0
      have hfz8_1:=blk_frozen BK216.out 1
      have hfz8_2:=blk_frozen BK216.out 2
      have hfz8_3:=blk_frozen BK216.out 3
      have hfz8_4:=blk_frozen BK216.out 4
      have hfz8_5:=blk_frozen BK216.out 5
      have hfz8_6:=blk_frozen BK216.out 6
      have p217:0≤(x5_1:Int):=of_decide_eq_true (by first|(with_reducible assumption)|assumption)
      have q217:x5_1<(l0_4.length:Int):=of_decide_eq_true (by first|(with_reducible assumption)|assumption)
      obtain ⟨ad217,e217,hx217_0,hx217_1⟩:=at_T79 HR0_4.out x5_1 p217 q217
      cases e217
      replace hx217_0:=(HB.out.cell (World.block_lt_of_cell? w _ hx217_0)).trans hx217_0
      replace hx217_1:=(HB.out.cell (World.block_lt_of_cell? w _ hx217_1)).trans hx217_1
      replace p217:=eq_true p217
      replace q217:=eq_true q217
      go_wp2
      go_roundg k1
      case measure=>have:=HK1.out;omega
      case rel=>exact ⟨(wrap64 (x5_1+1)),(by first|rfl|(simp;done)|(simp [*];done)),H',⟨by have:=HK1.out;omega⟩,⟨by (with_reducible repeat (first|refine blk_drewN ?_ _|refine blk_drew ?_|refine blk_alloc ?_ _));exact BK216.out⟩,⟨by repeat (first|(with_reducible first|exact HB.out|apply below_alloc|apply pw_below_drewN|apply below_drew1|refine below_set ?_ GE216.out)|exact HB.out)⟩⟩
    ·rw [if_neg c5] at H
     exact absurd H (by simp)
   ·rw [if_neg c4] at H
    have c4b0:decide (x5_1<(l0_4.length:Int))=false:=decide_eq_false c4
    clear c4
    obtain rfl:=Option.some.inj H
    have hcz9_0:wr.cell? ⟨gb216,0,none⟩=some (.int .i64 a0_0):=(blk_cell BK216.out 0).trans rfl
    have hcz9_1:wr.cell? ⟨gb216,1,none⟩=some (.int .i64 a0_1):=(blk_cell BK216.out 1).trans rfl
    have hcz9_2:wr.cell? ⟨gb216,2,none⟩=some (.int .i64 a0_2):=(blk_cell BK216.out 2).trans rfl
    have hcz9_3:wr.cell? ⟨gb216,3,none⟩=some (.int .i64 a0_3):=(blk_cell BK216.out 3).trans rfl
    have hcz9_4:wr.cell? ⟨gb216,4,none⟩=some (.slice A0_4 l0_4.length c0_4):=(blk_cell BK216.out 4).trans rfl
    have hcz9_5:wr.cell? ⟨gb216,5,none⟩=some (.slice A0_5 l0_5.length c0_5):=(blk_cell BK216.out 5).trans rfl
    have hcz9_6:wr.cell? ⟨gb216,6,none⟩=some (.slice A0_6 l0_6.length c0_6):=(blk_cell BK216.out 6).trans rfl
    have hfz9_0:=blk_frozen BK216.out 0
    have hfz9_1:=blk_frozen BK216.out 1
    have hfz9_2:=blk_frozen BK216.out 2
    have hfz9_3:=blk_frozen BK216.out 3
    have hfz9_4:=blk_frozen BK216.out 4
    have hfz9_5:=blk_frozen BK216.out 5
    have hfz9_6:=blk_frozen BK216.out 6
    go_wp2
    go_ret
    exact ⟨by first|rfl|(simp [errW_none,errW_some]<;>rfl)|(simp [*,errW_none,errW_some]<;>rfl),by repeat (first|(with_reducible first|exact HB.out|apply below_alloc|apply pw_below_drewN|apply below_drew1|refine below_set ?_ GE216.out)|exact HB.out)⟩
/-! ### spec_l12Kern: function 43 -/
def spec_l12Kern.l0:Nat→Int→Int→Int→Int→Int→Int→Int→List (S79)→List (S81)→List (S84)→Option (Int)
 |0,_,_,_,_,_,_,_,_,_,_=>none
 |k+1,x1,x2,x7,x220000,x220001,x220002,x220003,x220004,x220005,x220006=>if x7<(x220005.length:Int) then (if 0≤x7 then (if ((rd_T81 x220005 x7).f0)=x1 then (if ((rd_T81 x220005 x7).f1)=x2 then (some ((rd_T81 x220005 x7).f2)) else (spec_l12Kern.l0 k x1 x2 (wrap64 (x7+1)) x220000 x220001 x220002 x220003 x220004 x220005 x220006)) else (spec_l12Kern.l0 k x1 x2 (wrap64 (x7+1)) x220000 x220001 x220002 x220003 x220004 x220005 x220006)) else (none)) else (some 0)
def spec_l12Kern.f (k:Nat) (a0_0:Int) (a0_1:Int) (a0_2:Int) (a0_3:Int) (l0_4:List (S79)) (l0_5:List (S81)) (l0_6:List (S84)) (a1:Int) (a2:Int):Option (Int):=spec_l12Kern.l0 k a1 a2 0 a0_0 a0_1 a0_2 a0_3 l0_4 l0_5 l0_6
theorem spec_l12Kern.mono_l:∀ k,(∀ y0 y1 y2 y3 y4 y5 y6 y7 y8 y9,LeO (spec_l12Kern.l0 k y0 y1 y2 y3 y4 y5 y6 y7 y8 y9) (spec_l12Kern.l0 (k+1) y0 y1 y2 y3 y4 y5 y6 y7 y8 y9))
 |0=>fun _ _ _ _ _ _ _ _ _ _ r h=>by simp [spec_l12Kern.l0] at h
 |k+1=>by
  have ih0:=spec_l12Kern.mono_l k
  ·intro y0 y1 y2 y3 y4 y5 y6 y7 y8 y9
   unfold spec_l12Kern.l0
   repeat' first
   |(with_reducible exact ih0 _ _ _ _ _ _ _ _ _ _)
   |(with_reducible exact LeO.refl _)
   |(with_reducible exact LeO.none _)
   |(with_reducible refine LeO.ite ?_ ?_)
   |(with_reducible refine LeO.bind ?_ (fun _=>?_))
   |exact ih0 _ _ _ _ _ _ _ _ _ _
   |exact LeO.none _
   |refine LeO.ite ?_ ?_
   |refine LeO.bind ?_ (fun _=>?_)
theorem spec_l12Kern.mono:∀ a0 a1 a2 a3 a4 a5 a6 a7 a8 k,LeO (spec_l12Kern.f k a0 a1 a2 a3 a4 a5 a6 a7 a8) (spec_l12Kern.f (k+1) a0 a1 a2 a3 a4 a5 a6 a7 a8):=by
 intro a0 a1 a2 a3 a4 a5 a6 a7 a8 k
 have ih0:=spec_l12Kern.mono_l k
 unfold spec_l12Kern.f
 repeat' first
   |(with_reducible exact ih0 _ _ _ _ _ _ _ _ _ _)
   |(with_reducible exact LeO.refl _)
   |(with_reducible exact LeO.none _)
   |(with_reducible refine LeO.ite ?_ ?_)
   |(with_reducible refine LeO.bind ?_ (fun _=>?_))
   |exact ih0 _ _ _ _ _ _ _ _ _ _
   |exact LeO.none _
   |refine LeO.ite ?_ ?_
   |refine LeO.bind ?_ (fun _=>?_)
set_option maxHeartbeats 8000000 in
set_option maxRecDepth 100000 in
theorem spec_l12Kern.calls (k:Nat) (a0_0:Int) (a0_1:Int) (a0_2:Int) (a0_3:Int) (A0_4:Option Addr) (c0_4:Nat) (l0_4:List (S79)) (A0_5:Option Addr) (c0_5:Nat) (l0_5:List (S81)) (A0_6:Option Addr) (c0_6:Nat) (l0_6:List (S84)) (a1:Int) (a2:Int) (r:Int) (w:World) (hr0_4:Kd.C k79 w A0_4 l0_4.length l0_4) (hc0_4:l0_4.length≤c0_4) (hr0_5:Kd.C k81 w A0_5 l0_5.length l0_5) (hc0_5:l0_5.length≤c0_5) (hr0_6:Kd.C k84 w A0_6 l0_6.length l0_6) (hc0_6:l0_6.length≤c0_6) (h:spec_l12Kern.f k a0_0 a0_1 a0_2 a0_3 l0_4 l0_5 l0_6 a1 a2=some r) :
  Calls Try.prog 43 #[.agg #[.int .i64 a0_0,.int .i64 a0_1,.int .i64 a0_2,.int .i64 a0_3,.slice A0_4 l0_4.length c0_4,.slice A0_5 l0_5.length c0_5,.slice A0_6 l0_6.length c0_6],.int .i64 a1,.int .i64 a2] w fun e w'=>e=.returned (.int .i64 r)∧Below w.heap.size w w':=by
 have hu34:=Try.underlying34
 have HR0_4:=Aside0.mk hr0_4
 have HC0_4:=Aside0.mk hc0_4
 clear hr0_4 hc0_4
 have HR0_5:=Aside0.mk hr0_5
 have HC0_5:=Aside0.mk hc0_5
 clear hr0_5 hc0_5
 have HR0_6:=Aside0.mk hr0_6
 have HC0_6:=Aside0.mk hc0_6
 clear hr0_6 hc0_6
 have HB:=Aside0.mk (Below.refl w.heap.size w)
 have H:(spec_l12Kern.l0 k a1 a2 0 a0_0 a0_1 a0_2 a0_3 l0_4 l0_5 l0_6)=some r:=h
 clear h
 have H':=Aside0.mk H
 clear H
 go_enter Try.func43,Try.ntmps43
 go_wp2_with (first|((with_reducible refine gate_dst (N:=3) rfl ?_);refine box_event ?hg (N:=3) ?hd (cs:=#[.int .i64 a0_0,.int .i64 a0_1,.int .i64 a0_2,.int .i64 a0_3,.slice A0_4 l0_4.length c0_4,.slice A0_5 l0_5.length c0_5,.slice A0_6 l0_6.length c0_6]) (t:=34) ?hr ?_;(case hd=>rfl);(case hg=>rfl);(case hr=>first|(go_simp;done)|(go_simp;rfl));intro gb219 hg w4 hbox hb;have n0_:=Aside0.mk (below_step (by repeat (first|(with_reducible first|exact HB.out|apply below_alloc|apply pw_below_drewN|apply below_drew1)|exact HB.out)) hb);have n1_:=Aside0.mk (hbox);have n2_:=Aside0.mk ((by rw [hg];exact (below_size (by repeat (first|(with_reducible first|exact HB.out|apply below_alloc|apply pw_below_drewN|apply below_drew1)|exact HB.out))):w.heap.size≤gb219));have n3_:=Aside0.mk ((by rw [hg];exact (below_size (by repeat (first|(with_reducible first|exact HB.out|apply below_alloc|apply pw_below_drewN|apply below_drew1)|exact HB.out))):w.heap.size≤gb219));clear HB;have HB:=n0_;have BK219:=n1_;have GW219:=n2_;have GE219:=n3_;clear n0_ n1_ n2_ n3_;clear hb hbox hg))
 go_loopg [7] k (fun kq v7 w'=>∃ (x7_1:Int),v7=.int .i64 x7_1∧Aside0 (spec_l12Kern.l0 kq a1 a2 x7_1 a0_0 a0_1 a0_2 a0_3 l0_4 l0_5 l0_6=some r)∧Aside0 (kq≤k)∧Aside0 (w'.heap[gb219]?=some (.cells #[.int .i64 a0_0,.int .i64 a0_1,.int .i64 a0_2,.int .i64 a0_3,(.slice A0_4 l0_4.length c0_4),(.slice A0_5 l0_5.length c0_5),(.slice A0_6 l0_6.length c0_6)] 34 (0,0)))∧Aside0 (Below w.heap.size w w'))
 case atStart=>exact ⟨(0),(by first|rfl|(simp;done)|(simp [*];done)),H',⟨Nat.le_refl _⟩,⟨by (with_reducible repeat (first|refine blk_drewN ?_ _|refine blk_drew ?_|refine blk_alloc ?_ _));exact BK219.out⟩,⟨by repeat (first|(with_reducible first|exact HB.out|apply below_alloc|apply pw_below_drewN|apply below_drew1|refine below_set ?_ GE219.out)|exact HB.out)⟩⟩
 case round=>
  clear H'
  try clear p2
  try clear c4
  obtain ⟨x7_1,rfl,HA,HK1,BK219,HB⟩:=hrel
  cases gk with
  |zero=>exact absurd HA.out (by simp [spec_l12Kern.l0])
  |succ k1=>
   have H:=HA.out
   clear HA
   simp only [spec_l12Kern.l0] at H
   by_cases c5:x7_1<(l0_5.length:Int)
   ·rw [if_pos c5] at H
    have c5b0:decide (x7_1<(l0_5.length:Int))=true:=decide_eq_true c5
    clear c5
    by_cases c6:0≤x7_1
    ·rw [if_pos c6] at H
     have c6b0:decide (0≤x7_1)=true:=decide_eq_true c6
     clear c6
     by_cases c7:((rd_T81 l0_5 x7_1).f0)=a1
     ·rw [if_pos c7] at H
      have c7b0:(((rd_T81 l0_5 x7_1).f0)==a1)=true:=beq_iff_eq.mpr c7
      have c7b1:(((rd_T81 l0_5 x7_1).f0) != a1)=false:=bne_eq_false_iff_eq.mpr c7
      clear c7
      by_cases c8:((rd_T81 l0_5 x7_1).f1)=a2
      ·rw [if_pos c8] at H
       have c8b0:(((rd_T81 l0_5 x7_1).f1)==a2)=true:=beq_iff_eq.mpr c8
       have c8b1:(((rd_T81 l0_5 x7_1).f1) != a2)=false:=bne_eq_false_iff_eq.mpr c8
       clear c8
       obtain rfl:=Option.some.inj H
       have hcz9_0:wr.cell? ⟨gb219,0,none⟩=some (.int .i64 a0_0):=(blk_cell BK219.out 0).trans rfl
       have hcz9_1:wr.cell? ⟨gb219,1,none⟩=some (.int .i64 a0_1):=(blk_cell BK219.out 1).trans rfl
       have hcz9_2:wr.cell? ⟨gb219,2,none⟩=some (.int .i64 a0_2):=(blk_cell BK219.out 2).trans rfl
       have hcz9_3:wr.cell? ⟨gb219,3,none⟩=some (.int .i64 a0_3):=(blk_cell BK219.out 3).trans rfl
       have hcz9_4:wr.cell? ⟨gb219,4,none⟩=some (.slice A0_4 l0_4.length c0_4):=(blk_cell BK219.out 4).trans rfl
       have hcz9_5:wr.cell? ⟨gb219,5,none⟩=some (.slice A0_5 l0_5.length c0_5):=(blk_cell BK219.out 5).trans rfl
       have hcz9_6:wr.cell? ⟨gb219,6,none⟩=some (.slice A0_6 l0_6.length c0_6):=(blk_cell BK219.out 6).trans rfl
       have hfz9_0:=blk_frozen BK219.out 0
       have hfz9_1:=blk_frozen BK219.out 1
       have hfz9_2:=blk_frozen BK219.out 2
       have hfz9_3:=blk_frozen BK219.out 3
       have hfz9_4:=blk_frozen BK219.out 4
       have hfz9_5:=blk_frozen BK219.out 5
       have hfz9_6:=blk_frozen BK219.out 6
       have p220:0≤(x7_1:Int):=of_decide_eq_true (by first|(with_reducible assumption)|assumption)
       have q220:x7_1<(l0_5.length:Int):=of_decide_eq_true (by first|(with_reducible assumption)|assumption)
       obtain ⟨ad220,e220,hx220_0,hx220_1,hx220_2⟩:=at_T81 HR0_5.out x7_1 p220 q220
       cases e220
       replace hx220_0:=(HB.out.cell (World.block_lt_of_cell? w _ hx220_0)).trans hx220_0
       replace hx220_1:=(HB.out.cell (World.block_lt_of_cell? w _ hx220_1)).trans hx220_1
       replace hx220_2:=(HB.out.cell (World.block_lt_of_cell? w _ hx220_2)).trans hx220_2
       replace p220:=eq_true p220
       replace q220:=eq_true q220
       have p221:0≤(x7_1:Int):=of_decide_eq_true (by first|(with_reducible assumption)|assumption)
       have q221:x7_1<(l0_5.length:Int):=of_decide_eq_true (by first|(with_reducible assumption)|assumption)
       obtain ⟨ad221,e221,hx221_0,hx221_1,hx221_2⟩:=at_T81 HR0_5.out x7_1 p221 q221
       obtain rfl:ad220=ad221:=(by injection e221)
       replace hx221_0:=(HB.out.cell (World.block_lt_of_cell? w _ hx221_0)).trans hx221_0
       replace hx221_1:=(HB.out.cell (World.block_lt_of_cell? w _ hx221_1)).trans hx221_1
       replace hx221_2:=(HB.out.cell (World.block_lt_of_cell? w _ hx221_2)).trans hx221_2
       replace p221:=eq_true p221
       replace q221:=eq_true q221
       have p222:0≤(x7_1:Int):=of_decide_eq_true (by first|(with_reducible assumption)|assumption)
       have q222:x7_1<(l0_5.length:Int):=of_decide_eq_true (by first|(with_reducible assumption)|assumption)
       obtain ⟨ad222,e222,hx222_0,hx222_1,hx222_2⟩:=at_T81 HR0_5.out x7_1 p222 q222
       obtain rfl:ad220=ad222:=(by injection e222)
       replace hx222_0:=(HB.out.cell (World.block_lt_of_cell? w _ hx222_0)).trans hx222_0
       replace hx222_1:=(HB.out.cell (World.block_lt_of_cell? w _ hx222_1)).trans hx222_1
       replace hx222_2:=(HB.out.cell (World.block_lt_of_cell? w _ hx222_2)).trans hx222_2
       replace p222:=eq_true p222
       replace q222:=eq_true q222
       go_wp2
       go_ret
       exact ⟨by first|rfl|(simp [errW_none,errW_some]<;>rfl)|(simp [*,errW_none,errW_some]<;>rfl),by repeat (first|(with_reducible first|exact HB.out|apply below_alloc|apply pw_below_drewN|apply below_drew1|refine below_set ?_ GE219.out)|exact HB.out)⟩
      ·rw [if_neg c8] at H
       have c8b0:(((rd_T81 l0_5 x7_1).f1)==a2)=false:=beq_eq_false_iff_ne.mpr c8
       have c8b1:(((rd_T81 l0_5 x7_1).f1) != a2)=true:=bne_iff_ne.mpr c8
       have H':=Aside0.mk H
       clear H
       have hcz10_0:wr.cell? ⟨gb219,0,none⟩=some (.int .i64 a0_0):=(blk_cell BK219.out 0).trans rfl
       have hcz10_1:wr.cell? ⟨gb219,1,none⟩=some (.int .i64 a0_1):=(blk_cell BK219.out 1).trans rfl
       have hcz10_2:wr.cell? ⟨gb219,2,none⟩=some (.int .i64 a0_2):=(blk_cell BK219.out 2).trans rfl
       have hcz10_3:wr.cell? ⟨gb219,3,none⟩=some (.int .i64 a0_3):=(blk_cell BK219.out 3).trans rfl
       have hcz10_4:wr.cell? ⟨gb219,4,none⟩=some (.slice A0_4 l0_4.length c0_4):=(blk_cell BK219.out 4).trans rfl
       have hcz10_5:wr.cell? ⟨gb219,5,none⟩=some (.slice A0_5 l0_5.length c0_5):=(blk_cell BK219.out 5).trans rfl
       have hcz10_6:wr.cell? ⟨gb219,6,none⟩=some (.slice A0_6 l0_6.length c0_6):=(blk_cell BK219.out 6).trans rfl
       have hfz10_0:=blk_frozen BK219.out 0
       have hfz10_1:=blk_frozen BK219.out 1
       have hfz10_2:=blk_frozen BK219.out 2
       have hfz10_3:=blk_frozen BK219.out 3
       have hfz10_4:=blk_frozen BK219.out 4
       have hfz10_5:=blk_frozen BK219.out 5
       have hfz10_6:=blk_frozen BK219.out 6
       have p220:0≤(x7_1:Int):=of_decide_eq_true (by first|(with_reducible assumption)|assumption)
       have q220:x7_1<(l0_5.length:Int):=of_decide_eq_true (by first|(with_reducible assumption)|assumption)
       obtain ⟨ad220,e220,hx220_0,hx220_1,hx220_2⟩:=at_T81 HR0_5.out x7_1 p220 q220
       cases e220
       replace hx220_0:=(HB.out.cell (World.block_lt_of_cell? w _ hx220_0)).trans hx220_0
       replace hx220_1:=(HB.out.cell (World.block_lt_of_cell? w _ hx220_1)).trans hx220_1
       replace hx220_2:=(HB.out.cell (World.block_lt_of_cell? w _ hx220_2)).trans hx220_2
       replace p220:=eq_true p220
       replace q220:=eq_true q220
       have p221:0≤(x7_1:Int):=of_decide_eq_true (by first|(with_reducible assumption)|assumption)
       have q221:x7_1<(l0_5.length:Int):=of_decide_eq_true (by first|(with_reducible assumption)|assumption)
       obtain ⟨ad221,e221,hx221_0,hx221_1,hx221_2⟩:=at_T81 HR0_5.out x7_1 p221 q221
       obtain rfl:ad220=ad221:=(by injection e221)
       replace hx221_0:=(HB.out.cell (World.block_lt_of_cell? w _ hx221_0)).trans hx221_0
       replace hx221_1:=(HB.out.cell (World.block_lt_of_cell? w _ hx221_1)).trans hx221_1
       replace hx221_2:=(HB.out.cell (World.block_lt_of_cell? w _ hx221_2)).trans hx221_2
       replace p221:=eq_true p221
       replace q221:=eq_true q221
       go_wp2
       go_roundg k1
       case measure=>have:=HK1.out;omega
       case rel=>exact ⟨(wrap64 (x7_1+1)),(by first|rfl|(simp;done)|(simp [*];done)),H',⟨by have:=HK1.out;omega⟩,⟨by (with_reducible repeat (first|refine blk_drewN ?_ _|refine blk_drew ?_|refine blk_alloc ?_ _));exact BK219.out⟩,⟨by repeat (first|(with_reducible first|exact HB.out|apply below_alloc|apply pw_below_drewN|apply below_drew1|refine below_set ?_ GE219.out)|exact HB.out)⟩⟩
     ·rw [if_neg c7] at H
      have c7b0:(((rd_T81 l0_5 x7_1).f0)==a1)=false:=beq_eq_false_iff_ne.mpr c7
      have c7b1:(((rd_T81 l0_5 x7_1).f0) != a1)=true:=bne_iff_ne.mpr c7
      have H':=Aside0.mk H
      clear H
      have hcz11_0:wr.cell? ⟨gb219,0,none⟩=some (.int .i64 a0_0):=(blk_cell BK219.out 0).trans rfl
      have hcz11_1:wr.cell? ⟨gb219,1,none⟩=some (.int .i64 a0_1):=(blk_cell BK219.out 1).trans rfl
      have hcz11_2:wr.cell? ⟨gb219,2,none⟩=some (.int .i64 a0_2):=(blk_cell BK219.out 2).trans rfl
      have hcz11_3:wr.cell? ⟨gb219,3,none⟩=some (.int .i64 a0_3):=(blk_cell BK219.out 3).trans rfl
      have hcz11_4:wr.cell? ⟨gb219,4,none⟩=some (.slice A0_4 l0_4.length c0_4):=(blk_cell BK219.out 4).trans rfl
      have hcz11_5:wr.cell? ⟨gb219,5,none⟩=some (.slice A0_5 l0_5.length c0_5):=(blk_cell BK219.out 5).trans rfl
      have hcz11_6:wr.cell? ⟨gb219,6,none⟩=some (.slice A0_6 l0_6.length c0_6):=(blk_cell BK219.out 6).trans rfl
      have hfz11_0:=blk_frozen BK219.out 0
      have hfz11_1:=blk_frozen BK219.out 1
      have hfz11_2:=blk_frozen BK219.out 2
      have hfz11_3:=blk_frozen BK219.out 3
      have hfz11_4:=blk_frozen BK219.out 4
      have hfz11_5:=blk_frozen BK219.out 5
      have hfz11_6:=blk_frozen BK219.out 6
      have p220:0≤(x7_1:Int):=of_decide_eq_true (by first|(with_reducible assumption)|assumption)
      have q220:x7_1<(l0_5.length:Int):=of_decide_eq_true (by first|(with_reducible assumption)|assumption)
      obtain ⟨ad220,e220,hx220_0,hx220_1,hx220_2⟩:=at_T81 HR0_5.out x7_1 p220 q220
      cases e220
      replace hx220_0:=(HB.out.cell (World.block_lt_of_cell? w _ hx220_0)).trans hx220_0
      replace hx220_1:=(HB.out.cell (World.block_lt_of_cell? w _ hx220_1)).trans hx220_1
      replace hx220_2:=(HB.out.cell (World.block_lt_of_cell? w _ hx220_2)).trans hx220_2
      replace p220:=eq_true p220
      replace q220:=eq_true q220
      go_wp2
      go_roundg k1
      case measure=>have:=HK1.out;omega
      case rel=>exact ⟨(wrap64 (x7_1+1)),(by first|rfl|(simp;done)|(simp [*];done)),H',⟨by have:=HK1.out;omega⟩,⟨by (with_reducible repeat (first|refine blk_drewN ?_ _|refine blk_drew ?_|refine blk_alloc ?_ _));exact BK219.out⟩,⟨by repeat (first|(with_reducible first|exact HB.out|apply below_alloc|apply pw_below_drewN|apply below_drew1|refine below_set ?_ GE219.out)|exact HB.out)⟩⟩
    ·rw [if_neg c6] at H
     exact absurd H (by simp)
   ·rw [if_neg c5] at H
    have c5b0:decide (x7_1<(l0_5.length:Int))=false:=decide_eq_false c5
    clear c5
    obtain rfl:=Option.some.inj H
    have hcz12_0:wr.cell? ⟨gb219,0,none⟩=some (.int .i64 a0_0):=(blk_cell BK219.out 0).trans rfl
    have hcz12_1:wr.cell? ⟨gb219,1,none⟩=some (.int .i64 a0_1):=(blk_cell BK219.out 1).trans rfl
    have hcz12_2:wr.cell? ⟨gb219,2,none⟩=some (.int .i64 a0_2):=(blk_cell BK219.out 2).trans rfl
    have hcz12_3:wr.cell? ⟨gb219,3,none⟩=some (.int .i64 a0_3):=(blk_cell BK219.out 3).trans rfl
    have hcz12_4:wr.cell? ⟨gb219,4,none⟩=some (.slice A0_4 l0_4.length c0_4):=(blk_cell BK219.out 4).trans rfl
    have hcz12_5:wr.cell? ⟨gb219,5,none⟩=some (.slice A0_5 l0_5.length c0_5):=(blk_cell BK219.out 5).trans rfl
    have hcz12_6:wr.cell? ⟨gb219,6,none⟩=some (.slice A0_6 l0_6.length c0_6):=(blk_cell BK219.out 6).trans rfl
    have hfz12_0:=blk_frozen BK219.out 0
    have hfz12_1:=blk_frozen BK219.out 1
    have hfz12_2:=blk_frozen BK219.out 2
    have hfz12_3:=blk_frozen BK219.out 3
    have hfz12_4:=blk_frozen BK219.out 4
    have hfz12_5:=blk_frozen BK219.out 5
    have hfz12_6:=blk_frozen BK219.out 6
    go_wp2
    go_ret
    exact ⟨by first|rfl|(simp [errW_none,errW_some]<;>rfl)|(simp [*,errW_none,errW_some]<;>rfl),by repeat (first|(with_reducible first|exact HB.out|apply below_alloc|apply pw_below_drewN|apply below_drew1|refine below_set ?_ GE219.out)|exact HB.out)⟩
/-! ### spec_l9Clamp: function 44 -/
def spec_l9Clamp.f (a0:Int):Option (Int):=if a0 > 100000000 then (some 100000000) else (if a0<(-100000000) then (some (-100000000)) else (some a0))
set_option maxHeartbeats 8000000 in
set_option maxRecDepth 100000 in
theorem spec_l9Clamp.calls (a0:Int) (r:Int) (w:World) (h:spec_l9Clamp.f a0=some r) :
  Calls Try.prog 44 #[.int .i64 a0] w fun e w'=>e=.returned (.int .i64 r)∧Drawn0 w w':=by
 have H:(if a0 > 100000000 then (some 100000000) else (if a0<(-100000000) then (some (-100000000)) else (some a0)))=some r:=h
 clear h
 by_cases c2:a0 > 100000000
 ·rw [if_pos c2] at H
  have c2b0:decide (100000000<a0)=true:=decide_eq_true c2
  clear c2
  obtain rfl:=Option.some.inj H
  go_enter Try.func44,Try.ntmps44
  go_wp2
  go_ret
  exact ⟨by first|rfl|(simp;done)|(simp [*];done),by repeat (first|exact Drawn0.refl _|apply Drawn0.step)⟩
 ·rw [if_neg c2] at H
  have c2b0:decide (100000000<a0)=false:=decide_eq_false c2
  clear c2
  by_cases c3:a0<(-100000000)
  ·rw [if_pos c3] at H
   have c3b0:decide (a0<(-100000000))=true:=decide_eq_true c3
   clear c3
   obtain rfl:=Option.some.inj H
   go_enter Try.func44,Try.ntmps44
   go_wp2
   go_ret
   exact ⟨by first|rfl|(simp;done)|(simp [*];done),by repeat (first|exact Drawn0.refl _|apply Drawn0.step)⟩
  ·rw [if_neg c3] at H
   have c3b0:decide (a0<(-100000000))=false:=decide_eq_false c3
   clear c3
   obtain rfl:=Option.some.inj H
   go_enter Try.func44,Try.ntmps44
   go_wp2
   go_ret
   exact ⟨by first|rfl|(simp;done)|(simp [*];done),by repeat (first|exact Drawn0.refl _|apply Drawn0.step)⟩
end Go.Proofs.Ytiinihponcojkaa.QFnExactAdvance
