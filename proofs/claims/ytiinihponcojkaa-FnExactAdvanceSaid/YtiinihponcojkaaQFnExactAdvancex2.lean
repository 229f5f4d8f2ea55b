/- Written by a program (wip/tools/own_print.py) out of the walk that the kit's printer made; turned where it fell. -/
-- PRINTED by print.py (a twelfth state) out of the translation. Not trusted: Lean checks it.
import Derived.Test.YtiinihponcojkaaQFnExactAdvancex0
namespace Go.Proofs.Ytiinihponcojkaa.QFnExactAdvance
open Go.RowKit Go.Proofs.YtiinihponcojkaaV.PrintWords Go.Proofs.YtiinihponcojkaaV.PrintLast Go.Proofs.YtiinihponcojkaaV.PrintMore
attribute [local go_sem] max2_int min2_int max_two min_two max_three min_three max_four min_four   -- for this text's walks alone
set_option linter.unusedVariables false
set_option linter.unusedSimpArgs false
/-! ### laws_eqIntS: function 11 -/
def laws_eqIntS.l0:Nat→List Int→List Int→Int→Option (Bool)
 |0,_,_,_=>none
 |k+1,x0,x1,x5=>if x5<(x0.length:Int) then (if 0≤x5 then (if x5<(x1.length:Int) then (if (rd x0 x5)=(rd x1 x5) then (laws_eqIntS.l0 k x0 x1 (wrap64 (x5+1))) else (none)) else (none)) else (none)) else (some true)
def laws_eqIntS.f (k:Nat) (l0:List Int) (l1:List Int):Option (Bool):=if (l0.length:Int)=(l1.length:Int) then (laws_eqIntS.l0 k l0 l1 0) else (none)
theorem laws_eqIntS.mono_l:∀ k,(∀ y0 y1 y2,LeO (laws_eqIntS.l0 k y0 y1 y2) (laws_eqIntS.l0 (k+1) y0 y1 y2))
 |0=>fun _ _ _ r h=>by simp [laws_eqIntS.l0] at h
 |k+1=>by
  have ih0:=laws_eqIntS.mono_l k
  ·intro y0 y1 y2
   unfold laws_eqIntS.l0
   repeat' first
   |(with_reducible exact ih0 _ _ _)
   |(with_reducible exact LeO.refl _)
   |(with_reducible exact LeO.none _)
   |(with_reducible refine LeO.ite ?_ ?_)
   |(with_reducible refine LeO.bind ?_ (fun _=>?_))
   |exact ih0 _ _ _
   |exact LeO.none _
   |refine LeO.ite ?_ ?_
   |refine LeO.bind ?_ (fun _=>?_)
theorem laws_eqIntS.mono:∀ a0 a1 k,LeO (laws_eqIntS.f k a0 a1) (laws_eqIntS.f (k+1) a0 a1):=by
 intro a0 a1 k
 have ih0:=laws_eqIntS.mono_l k
 unfold laws_eqIntS.f
 repeat' first
   |(with_reducible exact ih0 _ _ _)
   |(with_reducible exact LeO.refl _)
   |(with_reducible exact LeO.none _)
   |(with_reducible refine LeO.ite ?_ ?_)
   |(with_reducible refine LeO.bind ?_ (fun _=>?_))
   |exact ih0 _ _ _
   |exact LeO.none _
   |refine LeO.ite ?_ ?_
   |refine LeO.bind ?_ (fun _=>?_)
set_option maxHeartbeats 8000000 in
set_option maxRecDepth 100000 in
theorem laws_eqIntS.calls (k:Nat) (A0:Option Addr) (c0:Nat) (l0:List Int) (A1:Option Addr) (c1:Nat) (l1:List Int) (r:Bool) (w:World) (hr0:Kd.C (Kd.int .i64) w A0 l0.length l0) (hc0:l0.length≤c0) (hr1:Kd.C (Kd.int .i64) w A1 l1.length l1) (hc1:l1.length≤c1) (h:laws_eqIntS.f k l0 l1=some r) :
  Calls Try.prog 11 #[.slice A0 l0.length c0,.slice A1 l1.length c1] w fun e w'=>e=.returned (.bool r)∧Drawn0 w w':=by
 have HR0:=Aside0.mk hr0
 have HC0:=Aside0.mk hc0
 clear hr0 hc0
 have HR1:=Aside0.mk hr1
 have HC1:=Aside0.mk hc1
 clear hr1 hc1
 have H:(if (l0.length:Int)=(l1.length:Int) then (laws_eqIntS.l0 k l0 l1 0) else (none))=some r:=h
 clear h
 by_cases c3:(l0.length:Int)=(l1.length:Int)
 ·rw [if_pos c3] at H
  have c3b0:((l0.length:Int)==(l1.length:Int))=true:=beq_iff_eq.mpr c3
  have c3b1:((l0.length:Int) != (l1.length:Int))=false:=bne_eq_false_iff_eq.mpr c3
  have c3b2:(l0.length==l1.length)=true:=by first|simpa using c3|(simp at c3 ⊢;omega)
  clear c3
  have H':=Aside0.mk H
  clear H
  go_enter Try.func11,Try.ntmps11
  go_wp2
  repeat (go_quiet (fail);try go_wp2)
  go_loopg [5] k (fun kq v5 w'=>∃ (x5_1:Int),v5=.int .i64 x5_1∧Aside0 (laws_eqIntS.l0 kq l0 l1 x5_1=some r)∧Aside0 (kq≤k)∧Drawn0 w w')
  case atStart=>exact ⟨(0),(by first|rfl|(simp;done)|(simp [*];done)),H',⟨Nat.le_refl _⟩,by repeat (first|exact Drawn0.refl _|apply Drawn0.step)⟩
  case round=>
   clear H'
   try clear c1
   try clear p2
   try clear c3
   try clear c3b0
   try clear c3b1
   try clear c3b2
   obtain ⟨x5_1,rfl,HA,HK1,⟨m1,rfl⟩⟩:=hrel
   cases gk with
   |zero=>exact absurd HA.out (by simp [laws_eqIntS.l0])
   |succ k1=>
    have H:=HA.out
    clear HA
    simp only [laws_eqIntS.l0] at H
    by_cases c4:x5_1<(l0.length:Int)
    ·rw [if_pos c4] at H
     have c4b0:decide (x5_1<(l0.length:Int))=true:=decide_eq_true c4
     clear c4
     by_cases c5:0≤x5_1
     ·rw [if_pos c5] at H
      have c5b0:decide (0≤x5_1)=true:=decide_eq_true c5
      clear c5
      by_cases c6:x5_1<(l1.length:Int)
      ·rw [if_pos c6] at H
       have c6b0:decide (x5_1<(l1.length:Int))=true:=decide_eq_true c6
       clear c6
       by_cases c7:(rd l0 x5_1)=(rd l1 x5_1)
       ·rw [if_pos c7] at H
        have c7b0:((rd l0 x5_1)==(rd l1 x5_1))=true:=beq_iff_eq.mpr c7
        have c7b1:((rd l0 x5_1) != (rd l1 x5_1))=false:=bne_eq_false_iff_eq.mpr c7
        clear c7
        have H':=Aside0.mk H
        clear H
        have p154:0≤(x5_1:Int):=of_decide_eq_true (by first|(with_reducible assumption)|assumption)
        have q154:x5_1<(l0.length:Int):=of_decide_eq_true (by first|(with_reducible assumption)|assumption)
        obtain ⟨ad154,e154,hx154_0⟩:=Kd.at_int HR0.out x5_1 p154 q154
        cases e154
        replace p154:=eq_true p154
        replace q154:=eq_true q154
        have p155:0≤(x5_1:Int):=of_decide_eq_true (by first|(with_reducible assumption)|assumption)
        have q155:x5_1<(l1.length:Int):=of_decide_eq_true (by first|(with_reducible assumption)|assumption)
        obtain ⟨ad155,e155,hx155_0⟩:=Kd.at_int HR1.out x5_1 p155 q155
        cases e155
        replace p155:=eq_true p155
        replace q155:=eq_true q155
        go_wp2
        repeat (go_quiet (fail);try go_wp2)
        go_roundg k1
        case measure=>have:=HK1.out;omega
        case rel=>exact ⟨(wrap64 (x5_1+1)),(by first|rfl|(simp;done)|(simp [*];done)),H',⟨by have:=HK1.out;omega⟩,by repeat (first|exact Drawn0.refl _|apply Drawn0.step)⟩
       ·rw [if_neg c7] at H
        exact absurd H (by simp)
      ·rw [if_neg c6] at H
       exact absurd H (by simp)
     ·rw [if_neg c5] at H
      exact absurd H (by simp)
    ·rw [if_neg c4] at H
     have c4b0:decide (x5_1<(l0.length:Int))=false:=decide_eq_false c4
     clear c4
     obtain rfl:=Option.some.inj H
     go_wp2
     repeat (go_quiet (fail);try go_wp2)
     go_ret
     exact ⟨by first|rfl|(simp;done)|(simp [*];done),by repeat (first|exact Drawn0.refl _|apply Drawn0.step)⟩
 ·rw [if_neg c3] at H
  exact absurd H (by simp)
/-! ### laws_eqGlyph: function 67 -/
def laws_eqGlyph.f (a0_0:Int) (a0_1:Int) (a1_0:Int) (a1_1:Int):Option (Bool):=if a0_0=a1_0 then (if a0_1=a1_1 then (some true) else (none)) else (none)
set_option maxHeartbeats 8000000 in
set_option maxRecDepth 100000 in
theorem laws_eqGlyph.calls (a0_0:Int) (a0_1:Int) (a1_0:Int) (a1_1:Int) (r:Bool) (w:World) (h:laws_eqGlyph.f a0_0 a0_1 a1_0 a1_1=some r) :
  Calls Try.prog 67 #[.agg #[.int .i64 a0_0,.int .i64 a0_1],.agg #[.int .i64 a1_0,.int .i64 a1_1]] w fun e w'=>e=.returned (.bool r)∧Below w.heap.size w w':=by
 have hu79:=Try.underlying79
 have HB:=Aside0.mk (Below.refl w.heap.size w)
 have H:(if a0_0=a1_0 then (if a0_1=a1_1 then (some true) else (none)) else (none))=some r:=h
 clear h
 by_cases c3:a0_0=a1_0
 ·rw [if_pos c3] at H
  have c3b0:(a0_0==a1_0)=true:=beq_iff_eq.mpr c3
  have c3b1:(a0_0 != a1_0)=false:=bne_eq_false_iff_eq.mpr c3
  clear c3
  by_cases c4:a0_1=a1_1
  ·rw [if_pos c4] at H
   have c4b0:(a0_1==a1_1)=true:=beq_iff_eq.mpr c4
   have c4b1:(a0_1 != a1_1)=false:=bne_eq_false_iff_eq.mpr c4
   clear c4
   obtain rfl:=Option.some.inj H
   go_enter Try.func67,Try.ntmps67
   go_wp2_with (first|((with_reducible refine gate_dst (N:=2) rfl ?_);refine box_event ?hg (N:=2) ?hd (cs:=#[.int .i64 a0_0,.int .i64 a0_1]) (t:=79) ?hr ?_;(case hd=>rfl);(case hg=>rfl);(case hr=>first|(go_simp;done)|(go_simp;rfl));intro gb156 hg w5 hbox hb;have n0_:=Aside0.mk (below_step (by repeat (first|(with_reducible first|exact HB.out|apply below_alloc|apply pw_below_drewN|apply below_drew1)|exact HB.out)) hb);have n1_:=Aside0.mk (hbox);have n2_:=Aside0.mk ((by rw [hg];exact (below_size (by repeat (first|(with_reducible first|exact HB.out|apply below_alloc|apply pw_below_drewN|apply below_drew1)|exact HB.out))):w.heap.size≤gb156));have n3_:=Aside0.mk ((by rw [hg];exact (below_size (by repeat (first|(with_reducible first|exact HB.out|apply below_alloc|apply pw_below_drewN|apply below_drew1)|exact HB.out))):w.heap.size≤gb156));clear HB;have HB:=n0_;have BK156:=n1_;have GW156:=n2_;have GE156:=n3_;clear n0_ n1_ n2_ n3_;clear hb hbox hg)|((with_reducible refine gate_dst (N:=3) rfl ?_);refine box_event ?hg (N:=3) ?hd (cs:=#[.int .i64 a1_0,.int .i64 a1_1]) (t:=79) ?hr ?_;(case hd=>rfl);(case hg=>rfl);(case hr=>first|(go_simp;done)|(go_simp;rfl));intro gb157 hg w6 hbox hb;have n0_:=Aside0.mk (blk_below (g:=gb156) (o:=.cells #[.int .i64 a0_0,.int .i64 a0_1] 79 (0,0)) (by (with_reducible repeat (first|refine blk_drewN ?_ _|refine blk_drew ?_|refine blk_alloc ?_ _));exact BK156.out) hb);have n1_:=Aside0.mk (below_step (by repeat (first|(with_reducible first|exact HB.out|apply below_alloc|apply pw_below_drewN|apply below_drew1|refine below_set ?_ GE156.out)|exact HB.out)) hb);have n2_:=Aside0.mk (hbox);have n3_:=Aside0.mk ((by rw [hg];exact (below_size (by repeat (first|(with_reducible first|exact HB.out|apply below_alloc|apply pw_below_drewN|apply below_drew1|refine below_set ?_ GE156.out)|exact HB.out))):w.heap.size≤gb157));have n4_:=Aside0.mk ((by rw [hg];exact (below_size (by repeat (first|(with_reducible first|exact HB.out|apply below_alloc|apply pw_below_drewN|apply below_drew1|refine below_set ?_ GE156.out)|exact HB.out))):w.heap.size≤gb157));have n5_:=Aside0.mk ((by rw [hg];exact Nat.ne_of_lt (blk_lt (g:=gb156) (o:=.cells #[.int .i64 a0_0,.int .i64 a0_1] 79 (0,0)) (by (with_reducible repeat (first|refine blk_drewN ?_ _|refine blk_drew ?_|refine blk_alloc ?_ _));exact BK156.out)):gb156≠gb157));have n6_:=Aside0.mk ((by rw [hg];exact Nat.ne_of_gt (blk_lt (g:=gb156) (o:=.cells #[.int .i64 a0_0,.int .i64 a0_1] 79 (0,0)) (by (with_reducible repeat (first|refine blk_drewN ?_ _|refine blk_drew ?_|refine blk_alloc ?_ _));exact BK156.out)):gb157≠gb156));clear BK156;clear HB;have BK156:=n0_;have HB:=n1_;have BK157:=n2_;have GW157:=n3_;have GE157:=n4_;have NB156_157:=n5_;have NB157_156:=n6_;clear n0_ n1_ n2_ n3_ n4_ n5_ n6_;clear hb hbox hg;have hnb7:=NB156_157.out;have hnc7:=NB157_156.out;have hcz8_0:w6.cell? ⟨gb156,0,none⟩=some (.int .i64 a0_0):=(blk_cell BK156.out 0).trans rfl;have hcz8_1:w6.cell? ⟨gb156,1,none⟩=some (.int .i64 a0_1):=(blk_cell BK156.out 1).trans rfl;have hfz8_0:=blk_frozen BK156.out 0;have hfz8_1:=blk_frozen BK156.out 1;have hcz9_0:w6.cell? ⟨gb157,0,none⟩=some (.int .i64 a1_0):=(blk_cell BK157.out 0).trans rfl;have hcz9_1:w6.cell? ⟨gb157,1,none⟩=some (.int .i64 a1_1):=(blk_cell BK157.out 1).trans rfl;have hfz9_0:=blk_frozen BK157.out 0;have hfz9_1:=blk_frozen BK157.out 1))
   go_ret
   exact ⟨by first|rfl|(simp [errW_none,errW_some]<;>rfl)|(simp [*,errW_none,errW_some]<;>rfl),by repeat (first|(with_reducible first|exact HB.out|apply below_alloc|apply pw_below_drewN|apply below_drew1|refine below_set ?_ GE156.out|refine below_set ?_ GE157.out)|exact HB.out)⟩
  ·rw [if_neg c4] at H
   exact absurd H (by simp)
 ·rw [if_neg c3] at H
  exact absurd H (by simp)
/-! ### laws_eqGlyphS: function 34 -/
def laws_eqGlyphS.l0:Nat→List (S79)→List (S79)→Int→Option (Bool)
 |0,_,_,_=>none
 |k+1,x0,x1,x5=>if x5<(x0.length:Int) then (if 0≤x5 then (if x5<(x1.length:Int) then ((laws_eqGlyph.f ((rd_T79 x0 x5).f0) ((rd_T79 x0 x5).f1) ((rd_T79 x1 x5).f0) ((rd_T79 x1 x5).f1)).bind fun t160=>(if t160=true then (laws_eqGlyphS.l0 k x0 x1 (wrap64 (x5+1))) else (none))) else (none)) else (none)) else (some true)
def laws_eqGlyphS.f (k:Nat) (l0:List (S79)) (l1:List (S79)):Option (Bool):=if (l0.length:Int)=(l1.length:Int) then (laws_eqGlyphS.l0 k l0 l1 0) else (none)
theorem laws_eqGlyphS.mono_l:∀ k,(∀ y0 y1 y2,LeO (laws_eqGlyphS.l0 k y0 y1 y2) (laws_eqGlyphS.l0 (k+1) y0 y1 y2))
 |0=>fun _ _ _ r h=>by simp [laws_eqGlyphS.l0] at h
 |k+1=>by
  have ih0:=laws_eqGlyphS.mono_l k
  ·intro y0 y1 y2
   unfold laws_eqGlyphS.l0
   repeat' first
   |(with_reducible exact ih0 _ _ _)
   |(with_reducible exact LeO.refl _)
   |(with_reducible exact LeO.none _)
   |(with_reducible refine LeO.ite ?_ ?_)
   |(with_reducible refine LeO.bind ?_ (fun _=>?_))
   |exact ih0 _ _ _
   |exact LeO.none _
   |refine LeO.ite ?_ ?_
   |refine LeO.bind ?_ (fun _=>?_)
theorem laws_eqGlyphS.mono:∀ a0 a1 k,LeO (laws_eqGlyphS.f k a0 a1) (laws_eqGlyphS.f (k+1) a0 a1):=by
 intro a0 a1 k
 have ih0:=laws_eqGlyphS.mono_l k
 unfold laws_eqGlyphS.f
 repeat' first
   |(with_reducible exact ih0 _ _ _)
   |(with_reducible exact LeO.refl _)
   |(with_reducible exact LeO.none _)
   |(with_reducible refine LeO.ite ?_ ?_)
   |(with_reducible refine LeO.bind ?_ (fun _=>?_))
   |exact ih0 _ _ _
   |exact LeO.none _
   |refine LeO.ite ?_ ?_
   |refine LeO.bind ?_ (fun _=>?_)
def laws_eqGlyphS.T6:Bool×List (List Nat×List Nat):=(true,[([],[]),([],[]),([0,1],[0,1]),([2],[2]),([],[]),([],[]),([4,5],[4,5]),([6],[6]),([3,7],[3,7]),([8],[8])])
def laws_eqGlyphS.B6:List Nat:=[0,0,3,7,0,0,48,112,255,511]
theorem laws_eqGlyphS.tab6:rtab .any (opsOf Try.f34 6)=laws_eqGlyphS.T6:=by kernel_rfl
theorem laws_eqGlyphS.bits6:waitsOk laws_eqGlyphS.T6.2 laws_eqGlyphS.B6=true:=by kernel_rfl
set_option maxHeartbeats 8000000 in
set_option maxRecDepth 100000 in
theorem laws_eqGlyphS.calls (k:Nat) (A0:Option Addr) (c0:Nat) (l0:List (S79)) (A1:Option Addr) (c1:Nat) (l1:List (S79)) (r:Bool) (w:World) (hr0:Kd.C k79 w A0 l0.length l0) (hc0:l0.length≤c0) (hr1:Kd.C k79 w A1 l1.length l1) (hc1:l1.length≤c1) (h:laws_eqGlyphS.f k l0 l1=some r) :
  Calls Try.prog 34 #[.slice A0 l0.length c0,.slice A1 l1.length c1] w fun e w'=>e=.returned (.bool r)∧Below w.heap.size w w':=by
 have hu79:=Try.underlying79
 have HR0:=Aside0.mk hr0
 have HC0:=Aside0.mk hc0
 clear hr0 hc0
 have HR1:=Aside0.mk hr1
 have HC1:=Aside0.mk hc1
 clear hr1 hc1
 have HB:=Aside0.mk (Below.refl w.heap.size w)
 have H:(if (l0.length:Int)=(l1.length:Int) then (laws_eqGlyphS.l0 k l0 l1 0) else (none))=some r:=h
 clear h
 by_cases c3:(l0.length:Int)=(l1.length:Int)
 ·rw [if_pos c3] at H
  have c3b0:((l0.length:Int)==(l1.length:Int))=true:=beq_iff_eq.mpr c3
  have c3b1:((l0.length:Int) != (l1.length:Int))=false:=bne_eq_false_iff_eq.mpr c3
  have c3b2:(l0.length==l1.length)=true:=by first|simpa using c3|(simp at c3 ⊢;omega)
  clear c3
  have H':=Aside0.mk H
  clear H
  go_enter Try.func34,Try.ntmps34
  go_wp2
  go_loopg [5] k (fun kq v5 w'=>∃ (x5_1:Int),v5=.int .i64 x5_1∧Aside0 (laws_eqGlyphS.l0 kq l0 l1 x5_1=some r)∧Aside0 (kq≤k)∧Aside0 (Below w.heap.size w w'))
  case atStart=>exact ⟨(0),(by first|rfl|(simp;done)|(simp [*];done)),H',⟨Nat.le_refl _⟩,⟨by repeat (first|(with_reducible first|exact HB.out|apply below_alloc|apply pw_below_drewN|apply below_drew1)|exact HB.out)⟩⟩
  case round=>
   clear H'
   try clear c1
   try clear p2
   try clear c3
   try clear c3b0
   try clear c3b1
   try clear c3b2
   obtain ⟨x5_1,rfl,HA,HK1,HB⟩:=hrel
   cases gk with
   |zero=>exact absurd HA.out (by simp [laws_eqGlyphS.l0])
   |succ k1=>
    have H:=HA.out
    clear HA
    simp only [laws_eqGlyphS.l0] at H
    by_cases c4:x5_1<(l0.length:Int)
    ·rw [if_pos c4] at H
     have c4b0:decide (x5_1<(l0.length:Int))=true:=decide_eq_true c4
     clear c4
     by_cases c5:0≤x5_1
     ·rw [if_pos c5] at H
      have c5b0:decide (0≤x5_1)=true:=decide_eq_true c5
      clear c5
      by_cases c6:x5_1<(l1.length:Int)
      ·rw [if_pos c6] at H
       have c6b0:decide (x5_1<(l1.length:Int))=true:=decide_eq_true c6
       clear c6
       replace H:=Option.bind_eq_some_iff.mp H
       obtain ⟨t160,A70,H⟩:=H
       replace H:(if t160=true then (laws_eqGlyphS.l0 k1 l0 l1 (wrap64 (x5_1+1))) else (none))=some r:=H
       have A7:=Aside0.mk A70
       clear A70
       by_cases c8:t160=true
       ·subst c8
        have H1:(laws_eqGlyphS.l0 k1 l0 l1 (wrap64 (x5_1+1)))=some r:=by rw [if_pos rfl] at H;exact H
        clear H
        have H:=H1
        clear H1
        have H':=Aside0.mk H
        clear H
        try go_wp2
        have n0_:=Aside0.mk (below_drew1 HB.out)
        clear HB
        have HB:=n0_
        clear n0_
        have p158:0≤(x5_1:Int):=of_decide_eq_true (by first|(with_reducible assumption)|assumption)
        have q158:x5_1<(l0.length:Int):=of_decide_eq_true (by first|(with_reducible assumption)|assumption)
        obtain ⟨ad158,e158,hx158_0,hx158_1⟩:=at_T79 HR0.out x5_1 p158 q158
        have hw158_1:=hx158_1
        have hw158_0:=hx158_0
        cases e158
        replace hx158_0:=(HB.out.cell (World.block_lt_of_cell? w _ hx158_0)).trans hx158_0
        replace hx158_1:=(HB.out.cell (World.block_lt_of_cell? w _ hx158_1)).trans hx158_1
        replace p158:=eq_true p158
        replace q158:=eq_true q158
        have p159:0≤(x5_1:Int):=of_decide_eq_true (by first|(with_reducible assumption)|assumption)
        have q159:x5_1<(l1.length:Int):=of_decide_eq_true (by first|(with_reducible assumption)|assumption)
        obtain ⟨ad159,e159,hx159_0,hx159_1⟩:=at_T79 HR1.out x5_1 p159 q159
        have hw159_1:=hx159_1
        have hw159_0:=hx159_0
        cases e159
        replace hx159_0:=(HB.out.cell (World.block_lt_of_cell? w _ hx159_0)).trans hx159_0
        replace hx159_1:=(HB.out.cell (World.block_lt_of_cell? w _ hx159_1)).trans hx159_1
        replace p159:=eq_true p159
        replace q159:=eq_true q159
        refine start_ (n:=10) (S:=fun w'=>w'.cell? (ad158.add ((x5_1).toNat*2))=some (.int .i64 ((rd_T79 l0 x5_1).f0))∧w'.cell? ⟨(ad158.add ((x5_1).toNat*2)).block,(ad158.add ((x5_1).toNat*2)).off+1,none⟩=some (.int .i64 ((rd_T79 l0 x5_1).f1))∧w'.cell? (ad159.add ((x5_1).toNat*2))=some (.int .i64 ((rd_T79 l1 x5_1).f0))∧w'.cell? ⟨(ad159.add ((x5_1).toNat*2)).block,(ad159.add ((x5_1).toNat*2)).off+1,none⟩=some (.int .i64 ((rd_T79 l1 x5_1).f1))) (ds:=[]) #[false,false,false,false,false,false,false,false,false,false] (by kernel_rfl) rfl rfl ⟨((HB.out.cell (World.block_lt_of_cell? w _ hw158_0)).trans hw158_0),((HB.out.cell (World.block_lt_of_cell? w _ hw158_1)).trans hw158_1),((HB.out.cell (World.block_lt_of_cell? w _ hw159_0)).trans hw159_0),((HB.out.cell (World.block_lt_of_cell? w _ hw159_1)).trans hw159_1)⟩ (fun hHeld=>?_);refine with_tabW laws_eqGlyphS.tab6 laws_eqGlyphS.bits6 (fun HT_ HW_=>?_)
        generalize wr.drew=w9 at HB hx158_0 hx158_1 hx159_0 hx159_1 hHeld ⊢
        refine pure_ (i:=0) (N:=some 17) (v:=?_) (a':=?_) #[true,false,false,false,false,false,false,false,false,false] rfl rfl (any_of HT_.out (by kernel_rfl)) (fun _ _ _ h=>h) (Or.inl ⟨by rfl,?_⟩) ?_ ?_
        rotate_left
        ·intro w'
         go_simp
         with_reducible rfl
        rotate_left
        ·simp only [Act.put,List.setIfInBounds_toArray,List.set_cons_zero,List.set_cons_succ,i64_w,i32_w]
         rfl
        refine pure_ (i:=1) (N:=some 18) (v:=?_) (a':=?_) #[true,true,false,false,false,false,false,false,false,false] rfl rfl (any_of HT_.out (by kernel_rfl)) (fun _ _ _ h=>h) (Or.inl ⟨by rfl,?_⟩) ?_ ?_
        rotate_left
        ·intro w'
         go_simp
         with_reducible rfl
        rotate_left
        ·simp only [Act.put,List.setIfInBounds_toArray,List.set_cons_zero,List.set_cons_succ,i64_w,i32_w]
         rfl
        refine pure_ (i:=2) (N:=some 19) (v:=?_) (a':=?_) #[true,true,true,false,false,false,false,false,false,false] rfl rfl (any_of HT_.out (by kernel_rfl)) (fun _ _ _ h=>h) (Or.inl ⟨by rfl,?_⟩) ?_ ?_
        rotate_left
        ·intro w'
         go_simp
         with_reducible rfl
        rotate_left
        ·simp only [Act.put,List.setIfInBounds_toArray,List.set_cons_zero,List.set_cons_succ,i64_w,i32_w]
         rfl
        refine pure_ (i:=4) (N:=some 21) (v:=?_) (a':=?_) #[true,true,true,false,true,false,false,false,false,false] rfl rfl (any_of HT_.out (by kernel_rfl)) (fun _ _ _ h=>h) (Or.inl ⟨by rfl,?_⟩) ?_ ?_
        rotate_left
        ·intro w'
         go_simp
         with_reducible rfl
        rotate_left
        ·simp only [Act.put,List.setIfInBounds_toArray,List.set_cons_zero,List.set_cons_succ,i64_w,i32_w]
         rfl
        refine pure_ (i:=5) (N:=some 22) (v:=?_) (a':=?_) #[true,true,true,false,true,true,false,false,false,false] rfl rfl (any_of HT_.out (by kernel_rfl)) (fun _ _ _ h=>h) (Or.inl ⟨by rfl,?_⟩) ?_ ?_
        rotate_left
        ·intro w'
         go_simp
         with_reducible rfl
        rotate_left
        ·simp only [Act.put,List.setIfInBounds_toArray,List.set_cons_zero,List.set_cons_succ,i64_w,i32_w]
         rfl
        refine pure_ (i:=6) (N:=some 23) (v:=?_) (a':=?_) #[true,true,true,false,true,true,true,false,false,false] rfl rfl (any_of HT_.out (by kernel_rfl)) (fun _ _ _ h=>h) (Or.inl ⟨by rfl,?_⟩) ?_ ?_
        rotate_left
        ·intro w'
         go_simp
         with_reducible rfl
        rotate_left
        ·simp only [Act.put,List.setIfInBounds_toArray,List.set_cons_zero,List.set_cons_succ,i64_w,i32_w]
         rfl
        refine take_ (i:=3) (N:=some 20) (v:=?_) (a':=?_) #[true,true,true,true,true,true,true,false,false,false] rfl rfl (take_ofW HT_.out HW_.out (by kernel_rfl)) (fun _ _ _ h=>h) (Or.inl ⟨by rfl,?_⟩) hHeld ?_ ?_
        rotate_left
        ·rintro w' ⟨s0,s1,s2,s3⟩
         go_simp
         with_reducible rfl
        rotate_left
        ·simp only [Act.put,List.setIfInBounds_toArray,List.set_cons_zero,List.set_cons_succ,i64_w,i32_w]
         rfl
        refine take_ (i:=7) (N:=some 24) (v:=?_) (a':=?_) #[true,true,true,true,true,true,true,true,false,false] rfl rfl (take_ofW HT_.out HW_.out (by kernel_rfl)) (fun _ _ _ h=>h) (Or.inl ⟨by rfl,?_⟩) hHeld ?_ ?_
        rotate_left
        ·rintro w' ⟨s0,s1,s2,s3⟩
         go_simp
         with_reducible rfl
        rotate_left
        ·simp only [Act.put,List.setIfInBounds_toArray,List.set_cons_zero,List.set_cons_succ,i64_w,i32_w]
         rfl
        refine one_ (i:=8) (N:=some 25) #[true,true,true,true,true,true,true,true,true,false] rfl rfl (one_of HT_.out (by kernel_rfl)) (by decide) (fun K hK=>?_)
        refine goes_ Try.func67 (by kernel_rfl) rfl #[.agg #[.int .i64 ((rd_T79 l0 x5_1).f0),.int .i64 ((rd_T79 l0 x5_1).f1)],.agg #[.int .i64 ((rd_T79 l1 x5_1).f0),.int .i64 ((rd_T79 l1 x5_1).f1)]] (by rfl) rfl rfl (by (try simp only [List.map_toArray,List.map_cons,List.map_nil]);first|done|rfl|(simp only [List.length_drop,List.length_take];rfl)) ?_
        with_reducible refine (laws_eqGlyph.calls ((rd_T79 l0 x5_1).f0) ((rd_T79 l0 x5_1).f1) ((rd_T79 l1 x5_1).f0) ((rd_T79 l1 x5_1).f1) true _ A7.out).mono ?_
        rintro e w10 ⟨rfl,hb⟩
        refine ⟨_,rfl,?_⟩
        have n0_:=Aside0.mk (below_step (by repeat (first|(with_reducible first|exact HB.out|apply below_alloc|apply pw_below_drewN|apply below_drew1)|exact HB.out)) hb)
        clear HB
        have HB:=n0_
        clear n0_
        (try clear hb)
        (try clear hb2)
        (try clear hk)
        (try clear hi)
        refine hK.out _ _ ⟨((HB.out.cell (World.block_lt_of_cell? w _ hw158_0)).trans hw158_0),((HB.out.cell (World.block_lt_of_cell? w _ hw158_1)).trans hw158_1),((HB.out.cell (World.block_lt_of_cell? w _ hw159_0)).trans hw159_0),((HB.out.cell (World.block_lt_of_cell? w _ hw159_1)).trans hw159_1)⟩ (fun hHeld=>?_)
        clear hK K
        refine norm_ (a':=?_) ?_ ?_
        rotate_left
        ·show Act.put _ (some 25) _=_
         simp only [Act.put,List.setIfInBounds_toArray,List.set_cons_zero,List.set_cons_succ,i64_w,i32_w]
         rfl
        refine pure_ (i:=9) (N:=some 26) (v:=?_) (a':=?_) #[true,true,true,true,true,true,true,true,true,true] rfl rfl (any_of HT_.out (by kernel_rfl)) (fun _ _ _ h=>h) (Or.inl ⟨by rfl,?_⟩) ?_ ?_
        rotate_left
        ·intro w'
         go_simp
         with_reducible rfl
        rotate_left
        ·simp only [Act.put,List.setIfInBounds_toArray,List.set_cons_zero,List.set_cons_succ,i64_w,i32_w]
         rfl
        refine done_ (done_of HT_.out (by kernel_rfl)) ?_
        try go_wp2
        go_roundg k1
        case measure=>have:=HK1.out;omega
        case rel=>exact ⟨(wrap64 (x5_1+1)),(by first|rfl|(simp;done)|(simp [*];done)),H',⟨by have:=HK1.out;omega⟩,⟨by repeat (first|(with_reducible first|exact HB.out|apply below_alloc|apply pw_below_drewN|apply below_drew1)|exact HB.out)⟩⟩
       ·replace c8:=Bool.eq_false_iff.mpr c8
        subst c8
        exact absurd H (by simp)
      ·rw [if_neg c6] at H
       exact absurd H (by simp)
     ·rw [if_neg c5] at H
      exact absurd H (by simp)
    ·rw [if_neg c4] at H
     have c4b0:decide (x5_1<(l0.length:Int))=false:=decide_eq_false c4
     clear c4
     obtain rfl:=Option.some.inj H
     go_wp2
     go_ret
     exact ⟨by first|rfl|(simp [errW_none,errW_some]<;>rfl)|(simp [*,errW_none,errW_some]<;>rfl),by repeat (first|(with_reducible first|exact HB.out|apply below_alloc|apply pw_below_drewN|apply below_drew1)|exact HB.out)⟩
 ·rw [if_neg c3] at H
  exact absurd H (by simp)
/-! ### laws_eqKern: function 68 -/
def laws_eqKern.f (a0_0:Int) (a0_1:Int) (a0_2:Int) (a1_0:Int) (a1_1:Int) (a1_2:Int):Option (Bool):=if a0_0=a1_0 then (if a0_1=a1_1 then (if a0_2=a1_2 then (some true) else (none)) else (none)) else (none)
set_option maxHeartbeats 8000000 in
set_option maxRecDepth 100000 in
theorem laws_eqKern.calls (a0_0:Int) (a0_1:Int) (a0_2:Int) (a1_0:Int) (a1_1:Int) (a1_2:Int) (r:Bool) (w:World) (h:laws_eqKern.f a0_0 a0_1 a0_2 a1_0 a1_1 a1_2=some r) :
  Calls Try.prog 68 #[.agg #[.int .i64 a0_0,.int .i64 a0_1,.int .i64 a0_2],.agg #[.int .i64 a1_0,.int .i64 a1_1,.int .i64 a1_2]] w fun e w'=>e=.returned (.bool r)∧Below w.heap.size w w':=by
 have hu81:=Try.underlying81
 have HB:=Aside0.mk (Below.refl w.heap.size w)
 have H:(if a0_0=a1_0 then (if a0_1=a1_1 then (if a0_2=a1_2 then (some true) else (none)) else (none)) else (none))=some r:=h
 clear h
 by_cases c3:a0_0=a1_0
 ·rw [if_pos c3] at H
  have c3b0:(a0_0==a1_0)=true:=beq_iff_eq.mpr c3
  have c3b1:(a0_0 != a1_0)=false:=bne_eq_false_iff_eq.mpr c3
  clear c3
  by_cases c4:a0_1=a1_1
  ·rw [if_pos c4] at H
   have c4b0:(a0_1==a1_1)=true:=beq_iff_eq.mpr c4
   have c4b1:(a0_1 != a1_1)=false:=bne_eq_false_iff_eq.mpr c4
   clear c4
   by_cases c5:a0_2=a1_2
   ·rw [if_pos c5] at H
    have c5b0:(a0_2==a1_2)=true:=beq_iff_eq.mpr c5
    have c5b1:(a0_2 != a1_2)=false:=bne_eq_false_iff_eq.mpr c5
    clear c5
    obtain rfl:=Option.some.inj H
    go_enter Try.func68,Try.ntmps68
    go_wp2_with (first|((with_reducible refine gate_dst (N:=2) rfl ?_);refine box_event ?hg (N:=2) ?hd (cs:=#[.int .i64 a0_0,.int .i64 a0_1,.int .i64 a0_2]) (t:=81) ?hr ?_;(case hd=>rfl);(case hg=>rfl);(case hr=>first|(go_simp;done)|(go_simp;rfl));intro gb161 hg w6 hbox hb;have n0_:=Aside0.mk (below_step (by repeat (first|(with_reducible first|exact HB.out|apply below_alloc|apply pw_below_drewN|apply below_drew1)|exact HB.out)) hb);have n1_:=Aside0.mk (hbox);have n2_:=Aside0.mk ((by rw [hg];exact (below_size (by repeat (first|(with_reducible first|exact HB.out|apply below_alloc|apply pw_below_drewN|apply below_drew1)|exact HB.out))):w.heap.size≤gb161));have n3_:=Aside0.mk ((by rw [hg];exact (below_size (by repeat (first|(with_reducible first|exact HB.out|apply below_alloc|apply pw_below_drewN|apply below_drew1)|exact HB.out))):w.heap.size≤gb161));clear HB;have HB:=n0_;have BK161:=n1_;have GW161:=n2_;have GE161:=n3_;clear n0_ n1_ n2_ n3_;clear hb hbox hg)|((with_reducible refine gate_dst (N:=3) rfl ?_);refine box_event ?hg (N:=3) ?hd (cs:=#[.int .i64 a1_0,.int .i64 a1_1,.int .i64 a1_2]) (t:=81) ?hr ?_;(case hd=>rfl);(case hg=>rfl);(case hr=>first|(go_simp;done)|(go_simp;rfl));intro gb162 hg w7 hbox hb;have n0_:=Aside0.mk (blk_below (g:=gb161) (o:=.cells #[.int .i64 a0_0,.int .i64 a0_1,.int .i64 a0_2] 81 (0,0)) (by (with_reducible repeat (first|refine blk_drewN ?_ _|refine blk_drew ?_|refine blk_alloc ?_ _));exact BK161.out) hb);have n1_:=Aside0.mk (below_step (by repeat (first|(with_reducible first|exact HB.out|apply below_alloc|apply pw_below_drewN|apply below_drew1|refine below_set ?_ GE161.out)|exact HB.out)) hb);have n2_:=Aside0.mk (hbox);have n3_:=Aside0.mk ((by rw [hg];exact (below_size (by repeat (first|(with_reducible first|exact HB.out|apply below_alloc|apply pw_below_drewN|apply below_drew1|refine below_set ?_ GE161.out)|exact HB.out))):w.heap.size≤gb162));have n4_:=Aside0.mk ((by rw [hg];exact (below_size (by repeat (first|(with_reducible first|exact HB.out|apply below_alloc|apply pw_below_drewN|apply below_drew1|refine below_set ?_ GE161.out)|exact HB.out))):w.heap.size≤gb162));have n5_:=Aside0.mk ((by rw [hg];exact Nat.ne_of_lt (blk_lt (g:=gb161) (o:=.cells #[.int .i64 a0_0,.int .i64 a0_1,.int .i64 a0_2] 81 (0,0)) (by (with_reducible repeat (first|refine blk_drewN ?_ _|refine blk_drew ?_|refine blk_alloc ?_ _));exact BK161.out)):gb161≠gb162));have n6_:=Aside0.mk ((by rw [hg];exact Nat.ne_of_gt (blk_lt (g:=gb161) (o:=.cells #[.int .i64 a0_0,.int .i64 a0_1,.int .i64 a0_2] 81 (0,0)) (by (with_reducible repeat (first|refine blk_drewN ?_ _|refine blk_drew ?_|refine blk_alloc ?_ _));exact BK161.out)):gb162≠gb161));clear BK161;clear HB;have BK161:=n0_;have HB:=n1_;have BK162:=n2_;have GW162:=n3_;have GE162:=n4_;have NB161_162:=n5_;have NB162_161:=n6_;clear n0_ n1_ n2_ n3_ n4_ n5_ n6_;clear hb hbox hg;have hnb8:=NB161_162.out;have hnc8:=NB162_161.out;have hcz9_0:w7.cell? ⟨gb161,0,none⟩=some (.int .i64 a0_0):=(blk_cell BK161.out 0).trans rfl;have hcz9_1:w7.cell? ⟨gb161,1,none⟩=some (.int .i64 a0_1):=(blk_cell BK161.out 1).trans rfl;have hcz9_2:w7.cell? ⟨gb161,2,none⟩=some (.int .i64 a0_2):=(blk_cell BK161.out 2).trans rfl;have hfz9_0:=blk_frozen BK161.out 0;have hfz9_1:=blk_frozen BK161.out 1;have hfz9_2:=blk_frozen BK161.out 2;have hcz10_0:w7.cell? ⟨gb162,0,none⟩=some (.int .i64 a1_0):=(blk_cell BK162.out 0).trans rfl;have hcz10_1:w7.cell? ⟨gb162,1,none⟩=some (.int .i64 a1_1):=(blk_cell BK162.out 1).trans rfl;have hcz10_2:w7.cell? ⟨gb162,2,none⟩=some (.int .i64 a1_2):=(blk_cell BK162.out 2).trans rfl;have hfz10_0:=blk_frozen BK162.out 0;have hfz10_1:=blk_frozen BK162.out 1;have hfz10_2:=blk_frozen BK162.out 2))
    go_ret
    exact ⟨by first|rfl|(simp [errW_none,errW_some]<;>rfl)|(simp [*,errW_none,errW_some]<;>rfl),by repeat (first|(with_reducible first|exact HB.out|apply below_alloc|apply pw_below_drewN|apply below_drew1|refine below_set ?_ GE161.out|refine below_set ?_ GE162.out)|exact HB.out)⟩
   ·rw [if_neg c5] at H
    exact absurd H (by simp)
  ·rw [if_neg c4] at H
   exact absurd H (by simp)
 ·rw [if_neg c3] at H
  exact absurd H (by simp)
end Go.Proofs.Ytiinihponcojkaa.QFnExactAdvance
