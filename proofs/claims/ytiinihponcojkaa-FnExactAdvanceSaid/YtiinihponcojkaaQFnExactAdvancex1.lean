/- Written by a program (wip/tools/own_print.py) out of the walk that the kit's printer made; turned where it fell. -/
-- PRINTED by print.py (a twelfth state) out of the translation. Not trusted: Lean checks it.
import Derived.Test.YtiinihponcojkaaQFnExactAdvancex0
namespace Go.Proofs.Ytiinihponcojkaa.QFnExactAdvance
open Go.RowKit Go.Proofs.YtiinihponcojkaaV.PrintWords Go.Proofs.YtiinihponcojkaaV.PrintLast Go.Proofs.YtiinihponcojkaaV.PrintMore
attribute [local go_sem] max2_int min2_int max_two min_two max_three min_three max_four min_four   -- for this text's walks alone
set_option linter.unusedVariables false
set_option linter.unusedSimpArgs false
/-! ### laws_szGlyphS: function 24 -/
def laws_szGlyphS.f (l0:List (S86)) (a1:Int):Option (Int):=if (wrap64 (a1 - (l0.length:Int)))<0 then (some (-1)) else (some (wrap64 (a1 - (l0.length:Int))))
set_option maxHeartbeats 8000000 in
set_option maxRecDepth 100000 in
theorem laws_szGlyphS.calls (A0:Option Addr) (c0:Nat) (l0:List (S86)) (a1:Int) (r:Int) (w:World) (hr0:Kd.C k86 w A0 l0.length l0) (hc0:l0.length≤c0) (h:laws_szGlyphS.f l0 a1=some r) :
  Calls Try.prog 24 #[.slice A0 l0.length c0,.int .i64 a1] w fun e w'=>e=.returned (.int .i64 r)∧Drawn0 w w':=by
 have HR0:=Aside0.mk hr0
 have HC0:=Aside0.mk hc0
 clear hr0 hc0
 have H:(if (wrap64 (a1 - (l0.length:Int)))<0 then (some (-1)) else (some (wrap64 (a1 - (l0.length:Int)))))=some r:=h
 clear h
 by_cases c3:(wrap64 (a1 - (l0.length:Int)))<0
 ·rw [if_pos c3] at H
  have c3b0:decide ((wrap64 (a1 - (l0.length:Int)))<0)=true:=decide_eq_true c3
  clear c3
  obtain rfl:=Option.some.inj H
  go_enter Try.func24,Try.ntmps24
  go_wp2
  go_ret
  exact ⟨by first|rfl|(simp;done)|(simp [*];done),by repeat (first|exact Drawn0.refl _|apply Drawn0.step)⟩
 ·rw [if_neg c3] at H
  have c3b0:decide ((wrap64 (a1 - (l0.length:Int)))<0)=false:=decide_eq_false c3
  clear c3
  obtain rfl:=Option.some.inj H
  go_enter Try.func24,Try.ntmps24
  go_wp2
  go_ret
  exact ⟨by first|rfl|(simp;done)|(simp [*];done),by repeat (first|exact Drawn0.refl _|apply Drawn0.step)⟩
/-! ### laws_szKernS: function 25 -/
def laws_szKernS.f (l0:List (S88)) (a1:Int):Option (Int):=if (wrap64 (a1 - (l0.length:Int)))<0 then (some (-1)) else (some (wrap64 (a1 - (l0.length:Int))))
set_option maxHeartbeats 8000000 in
set_option maxRecDepth 100000 in
theorem laws_szKernS.calls (A0:Option Addr) (c0:Nat) (l0:List (S88)) (a1:Int) (r:Int) (w:World) (hr0:Kd.C k88 w A0 l0.length l0) (hc0:l0.length≤c0) (h:laws_szKernS.f l0 a1=some r) :
  Calls Try.prog 25 #[.slice A0 l0.length c0,.int .i64 a1] w fun e w'=>e=.returned (.int .i64 r)∧Drawn0 w w':=by
 have HR0:=Aside0.mk hr0
 have HC0:=Aside0.mk hc0
 clear hr0 hc0
 have H:(if (wrap64 (a1 - (l0.length:Int)))<0 then (some (-1)) else (some (wrap64 (a1 - (l0.length:Int)))))=some r:=h
 clear h
 by_cases c3:(wrap64 (a1 - (l0.length:Int)))<0
 ·rw [if_pos c3] at H
  have c3b0:decide ((wrap64 (a1 - (l0.length:Int)))<0)=true:=decide_eq_true c3
  clear c3
  obtain rfl:=Option.some.inj H
  go_enter Try.func25,Try.ntmps25
  go_wp2
  go_ret
  exact ⟨by first|rfl|(simp;done)|(simp [*];done),by repeat (first|exact Drawn0.refl _|apply Drawn0.step)⟩
 ·rw [if_neg c3] at H
  have c3b0:decide ((wrap64 (a1 - (l0.length:Int)))<0)=false:=decide_eq_false c3
  clear c3
  obtain rfl:=Option.some.inj H
  go_enter Try.func25,Try.ntmps25
  go_wp2
  go_ret
  exact ⟨by first|rfl|(simp;done)|(simp [*];done),by repeat (first|exact Drawn0.refl _|apply Drawn0.step)⟩
/-! ### laws_szLigS: function 26 -/
def laws_szLigS.f (l0:List (S90)) (a1:Int):Option (Int):=if (wrap64 (a1 - (l0.length:Int)))<0 then (some (-1)) else (some (wrap64 (a1 - (l0.length:Int))))
set_option maxHeartbeats 8000000 in
set_option maxRecDepth 100000 in
theorem laws_szLigS.calls (A0:Option Addr) (c0:Nat) (l0:List (S90)) (a1:Int) (r:Int) (w:World) (hr0:Kd.C k90 w A0 l0.length l0) (hc0:l0.length≤c0) (h:laws_szLigS.f l0 a1=some r) :
  Calls Try.prog 26 #[.slice A0 l0.length c0,.int .i64 a1] w fun e w'=>e=.returned (.int .i64 r)∧Drawn0 w w':=by
 have HR0:=Aside0.mk hr0
 have HC0:=Aside0.mk hc0
 clear hr0 hc0
 have H:(if (wrap64 (a1 - (l0.length:Int)))<0 then (some (-1)) else (some (wrap64 (a1 - (l0.length:Int)))))=some r:=h
 clear h
 by_cases c3:(wrap64 (a1 - (l0.length:Int)))<0
 ·rw [if_pos c3] at H
  have c3b0:decide ((wrap64 (a1 - (l0.length:Int)))<0)=true:=decide_eq_true c3
  clear c3
  obtain rfl:=Option.some.inj H
  go_enter Try.func26,Try.ntmps26
  go_wp2
  go_ret
  exact ⟨by first|rfl|(simp;done)|(simp [*];done),by repeat (first|exact Drawn0.refl _|apply Drawn0.step)⟩
 ·rw [if_neg c3] at H
  have c3b0:decide ((wrap64 (a1 - (l0.length:Int)))<0)=false:=decide_eq_false c3
  clear c3
  obtain rfl:=Option.some.inj H
  go_enter Try.func26,Try.ntmps26
  go_wp2
  go_ret
  exact ⟨by first|rfl|(simp;done)|(simp [*];done),by repeat (first|exact Drawn0.refl _|apply Drawn0.step)⟩
/-! ### laws_szFont: function 6 -/
def laws_szFont.f (a0_0:Int) (a0_1:Int) (a0_2:Int) (a0_3:Int) (l0_4:List (S86)) (l0_5:List (S88)) (l0_6:List (S90)) (a1:Int):Option (Int):=(laws_szGlyphS.f l0_4 a1).bind fun t102=>(if t102<0 then (some (-1)) else ((laws_szKernS.f l0_5 t102).bind fun t103=>(if t103<0 then (some (-1)) else ((laws_szLigS.f l0_6 t103).bind fun t104=>(if t104<0 then (some (-1)) else (some t104))))))
set_option maxHeartbeats 8000000 in
set_option maxRecDepth 100000 in
theorem laws_szFont.calls (a0_0:Int) (a0_1:Int) (a0_2:Int) (a0_3:Int) (A0_4:Option Addr) (c0_4:Nat) (l0_4:List (S86)) (A0_5:Option Addr) (c0_5:Nat) (l0_5:List (S88)) (A0_6:Option Addr) (c0_6:Nat) (l0_6:List (S90)) (a1:Int) (r:Int) (w:World) (hr0_4:Kd.C k86 w A0_4 l0_4.length l0_4) (hc0_4:l0_4.length≤c0_4) (hr0_5:Kd.C k88 w A0_5 l0_5.length l0_5) (hc0_5:l0_5.length≤c0_5) (hr0_6:Kd.C k90 w A0_6 l0_6.length l0_6) (hc0_6:l0_6.length≤c0_6) (h:laws_szFont.f a0_0 a0_1 a0_2 a0_3 l0_4 l0_5 l0_6 a1=some r) :
  Calls Try.prog 6 #[.agg #[.int .i64 a0_0,.int .i64 a0_1,.int .i64 a0_2,.int .i64 a0_3,.slice A0_4 l0_4.length c0_4,.slice A0_5 l0_5.length c0_5,.slice A0_6 l0_6.length c0_6],.int .i64 a1] w fun e w'=>e=.returned (.int .i64 r)∧Below w.heap.size w w':=by
 have hu26:=Try.underlying26
 have HR0_4:=Aside0.mk hr0_4
 have HC0_4:=Aside0.mk hc0_4
 clear hr0_4 hc0_4
 have HR0_5:=Aside0.mk hr0_5
 have HC0_5:=Aside0.mk hc0_5
 clear hr0_5 hc0_5
 have HR0_6:=Aside0.mk hr0_6
 have HC0_6:=Aside0.mk hc0_6
 clear hr0_6 hc0_6
 have HB:=Aside0.mk (Below.refl w.heap.size w)
 have H:((laws_szGlyphS.f l0_4 a1).bind fun t102=>(if t102<0 then (some (-1)) else ((laws_szKernS.f l0_5 t102).bind fun t103=>(if t103<0 then (some (-1)) else ((laws_szLigS.f l0_6 t103).bind fun t104=>(if t104<0 then (some (-1)) else (some t104)))))))=some r:=h
 clear h
 replace H:=Option.bind_eq_some_iff.mp H
 obtain ⟨t102,A30,H⟩:=H
 replace H:(if t102<0 then (some (-1)) else ((laws_szKernS.f l0_5 t102).bind fun t103=>(if t103<0 then (some (-1)) else ((laws_szLigS.f l0_6 t103).bind fun t104=>(if t104<0 then (some (-1)) else (some t104))))))=some r:=H
 have A3:=Aside0.mk A30
 clear A30
 by_cases c4:t102<0
 ·rw [if_pos c4] at H
  have c4b0:decide (t102<0)=true:=decide_eq_true c4
  clear c4
  obtain rfl:=Option.some.inj H
  go_enter Try.func6,Try.ntmps6
  go_wp2_with (first|((with_reducible refine gate_dst (N:=2) rfl ?_);refine box_event ?hg (N:=2) ?hd (cs:=#[.int .i64 a0_0,.int .i64 a0_1,.int .i64 a0_2,.int .i64 a0_3,.slice A0_4 l0_4.length c0_4,.slice A0_5 l0_5.length c0_5,.slice A0_6 l0_6.length c0_6]) (t:=26) ?hr ?_;(case hd=>rfl);(case hg=>rfl);(case hr=>first|(go_simp;done)|(go_simp;rfl));intro gb101 hg w5 hbox hb;have n0_:=Aside0.mk (below_step (by repeat (first|(with_reducible first|exact HB.out|apply below_alloc|apply pw_below_drewN|apply below_drew1)|exact HB.out)) hb);have n1_:=Aside0.mk (hbox);have n2_:=Aside0.mk ((by rw [hg];exact (below_size (by repeat (first|(with_reducible first|exact HB.out|apply below_alloc|apply pw_below_drewN|apply below_drew1)|exact HB.out))):w.heap.size≤gb101));have n3_:=Aside0.mk ((by rw [hg];exact (below_size (by repeat (first|(with_reducible first|exact HB.out|apply below_alloc|apply pw_below_drewN|apply below_drew1)|exact HB.out))):w.heap.size≤gb101));clear HB;have HB:=n0_;have BK101:=n1_;have GW101:=n2_;have GE101:=n3_;clear n0_ n1_ n2_ n3_;clear hb hbox hg;have hcz6_0:w5.cell? ⟨gb101,0,none⟩=some (.int .i64 a0_0):=(blk_cell BK101.out 0).trans rfl;have hcz6_1:w5.cell? ⟨gb101,1,none⟩=some (.int .i64 a0_1):=(blk_cell BK101.out 1).trans rfl;have hcz6_2:w5.cell? ⟨gb101,2,none⟩=some (.int .i64 a0_2):=(blk_cell BK101.out 2).trans rfl;have hcz6_3:w5.cell? ⟨gb101,3,none⟩=some (.int .i64 a0_3):=(blk_cell BK101.out 3).trans rfl;have hcz6_4:w5.cell? ⟨gb101,4,none⟩=some (.slice A0_4 l0_4.length c0_4):=(blk_cell BK101.out 4).trans rfl;have hcz6_5:w5.cell? ⟨gb101,5,none⟩=some (.slice A0_5 l0_5.length c0_5):=(blk_cell BK101.out 5).trans rfl;have hcz6_6:w5.cell? ⟨gb101,6,none⟩=some (.slice A0_6 l0_6.length c0_6):=(blk_cell BK101.out 6).trans rfl;have hfz6_0:=blk_frozen BK101.out 0;have hfz6_1:=blk_frozen BK101.out 1;have hfz6_2:=blk_frozen BK101.out 2;have hfz6_3:=blk_frozen BK101.out 3;have hfz6_4:=blk_frozen BK101.out 4;have hfz6_5:=blk_frozen BK101.out 5;have hfz6_6:=blk_frozen BK101.out 6)|((with_reducible refine gate_callee (f:=24) rfl ?_);refine goesL_ (some 8) rfl rfl Try.func24 (by kernel_rfl) rfl #[.slice A0_4 l0_4.length c0_4,.int .i64 a1] rfl (by (try simp only [List.map_toArray,List.map_cons,List.map_nil]);first|done|rfl|(simp only [List.length_drop,List.length_take];rfl)) ?_;(with_reducible refine (laws_szGlyphS.calls _ _ l0_4 a1 t102 _ ?side1 ?side2 A3.out).mono ?_);(case side1=>repeat (first|exact (Kd.C_below HR0_4.out HB.out)|(with_reducible refine Kd.C_alloc ?_ _)|(with_reducible refine Kd.C_drewN ?_ _)|(with_reducible refine Kd.C_drew ?_)));(case side2=>exact HC0_4.out);rintro e w' ⟨rfl,⟨nd,rfl⟩⟩;refine ⟨_,rfl,?_⟩))
  go_ret
  exact ⟨by first|rfl|(simp [errW_none,errW_some]<;>rfl)|(simp [*,errW_none,errW_some]<;>rfl),by repeat (first|(with_reducible first|exact HB.out|apply below_alloc|apply pw_below_drewN|apply below_drew1|refine below_set ?_ GE101.out)|exact HB.out)⟩
 ·rw [if_neg c4] at H
  have c4b0:decide (t102<0)=false:=decide_eq_false c4
  clear c4
  replace H:=Option.bind_eq_some_iff.mp H
  obtain ⟨t103,A70,H⟩:=H
  replace H:(if t103<0 then (some (-1)) else ((laws_szLigS.f l0_6 t103).bind fun t104=>(if t104<0 then (some (-1)) else (some t104))))=some r:=H
  have A7:=Aside0.mk A70
  clear A70
  by_cases c8:t103<0
  ·rw [if_pos c8] at H
   have c8b0:decide (t103<0)=true:=decide_eq_true c8
   clear c8
   obtain rfl:=Option.some.inj H
   go_enter Try.func6,Try.ntmps6
   go_wp2_with (first|((with_reducible refine gate_dst (N:=2) rfl ?_);refine box_event ?hg (N:=2) ?hd (cs:=#[.int .i64 a0_0,.int .i64 a0_1,.int .i64 a0_2,.int .i64 a0_3,.slice A0_4 l0_4.length c0_4,.slice A0_5 l0_5.length c0_5,.slice A0_6 l0_6.length c0_6]) (t:=26) ?hr ?_;(case hd=>rfl);(case hg=>rfl);(case hr=>first|(go_simp;done)|(go_simp;rfl));intro gb101 hg w9 hbox hb;have n0_:=Aside0.mk (below_step (by repeat (first|(with_reducible first|exact HB.out|apply below_alloc|apply pw_below_drewN|apply below_drew1)|exact HB.out)) hb);have n1_:=Aside0.mk (hbox);have n2_:=Aside0.mk ((by rw [hg];exact (below_size (by repeat (first|(with_reducible first|exact HB.out|apply below_alloc|apply pw_below_drewN|apply below_drew1)|exact HB.out))):w.heap.size≤gb101));have n3_:=Aside0.mk ((by rw [hg];exact (below_size (by repeat (first|(with_reducible first|exact HB.out|apply below_alloc|apply pw_below_drewN|apply below_drew1)|exact HB.out))):w.heap.size≤gb101));clear HB;have HB:=n0_;have BK101:=n1_;have GW101:=n2_;have GE101:=n3_;clear n0_ n1_ n2_ n3_;clear hb hbox hg;have hcz10_0:w9.cell? ⟨gb101,0,none⟩=some (.int .i64 a0_0):=(blk_cell BK101.out 0).trans rfl;have hcz10_1:w9.cell? ⟨gb101,1,none⟩=some (.int .i64 a0_1):=(blk_cell BK101.out 1).trans rfl;have hcz10_2:w9.cell? ⟨gb101,2,none⟩=some (.int .i64 a0_2):=(blk_cell BK101.out 2).trans rfl;have hcz10_3:w9.cell? ⟨gb101,3,none⟩=some (.int .i64 a0_3):=(blk_cell BK101.out 3).trans rfl;have hcz10_4:w9.cell? ⟨gb101,4,none⟩=some (.slice A0_4 l0_4.length c0_4):=(blk_cell BK101.out 4).trans rfl;have hcz10_5:w9.cell? ⟨gb101,5,none⟩=some (.slice A0_5 l0_5.length c0_5):=(blk_cell BK101.out 5).trans rfl;have hcz10_6:w9.cell? ⟨gb101,6,none⟩=some (.slice A0_6 l0_6.length c0_6):=(blk_cell BK101.out 6).trans rfl;have hfz10_0:=blk_frozen BK101.out 0;have hfz10_1:=blk_frozen BK101.out 1;have hfz10_2:=blk_frozen BK101.out 2;have hfz10_3:=blk_frozen BK101.out 3;have hfz10_4:=blk_frozen BK101.out 4;have hfz10_5:=blk_frozen BK101.out 5;have hfz10_6:=blk_frozen BK101.out 6)|((with_reducible refine gate_callee (f:=24) rfl ?_);refine goesL_ (some 8) rfl rfl Try.func24 (by kernel_rfl) rfl #[.slice A0_4 l0_4.length c0_4,.int .i64 a1] rfl (by (try simp only [List.map_toArray,List.map_cons,List.map_nil]);first|done|rfl|(simp only [List.length_drop,List.length_take];rfl)) ?_;(with_reducible refine (laws_szGlyphS.calls _ _ l0_4 a1 t102 _ ?side1 ?side2 A3.out).mono ?_);(case side1=>repeat (first|exact (Kd.C_below HR0_4.out HB.out)|(with_reducible refine Kd.C_alloc ?_ _)|(with_reducible refine Kd.C_drewN ?_ _)|(with_reducible refine Kd.C_drew ?_)));(case side2=>exact HC0_4.out);rintro e w' ⟨rfl,⟨nd,rfl⟩⟩;refine ⟨_,rfl,?_⟩)|((with_reducible refine gate_callee (f:=25) rfl ?_);refine goesL_ (some 14) rfl rfl Try.func25 (by kernel_rfl) rfl #[.slice A0_5 l0_5.length c0_5,.int .i64 t102] rfl (by (try simp only [List.map_toArray,List.map_cons,List.map_nil]);first|done|rfl|(simp only [List.length_drop,List.length_take];rfl)) ?_;(with_reducible refine (laws_szKernS.calls _ _ l0_5 t102 t103 _ ?side1 ?side2 A7.out).mono ?_);(case side1=>repeat (first|exact (Kd.C_below HR0_5.out (by repeat (first|(with_reducible first|exact HB.out|apply below_alloc|apply pw_below_drewN|apply below_drew1|refine below_set ?_ GE101.out)|exact HB.out)))|(with_reducible refine Kd.C_alloc ?_ _)|(with_reducible refine Kd.C_drewN ?_ _)|(with_reducible refine Kd.C_drew ?_)));(case side2=>exact HC0_5.out);rintro e w' ⟨rfl,⟨nd,rfl⟩⟩;refine ⟨_,rfl,?_⟩))
   go_ret
   exact ⟨by first|rfl|(simp [errW_none,errW_some]<;>rfl)|(simp [*,errW_none,errW_some]<;>rfl),by repeat (first|(with_reducible first|exact HB.out|apply below_alloc|apply pw_below_drewN|apply below_drew1|refine below_set ?_ GE101.out)|exact HB.out)⟩
  ·rw [if_neg c8] at H
   have c8b0:decide (t103<0)=false:=decide_eq_false c8
   clear c8
   replace H:=Option.bind_eq_some_iff.mp H
   obtain ⟨t104,A110,H⟩:=H
   replace H:(if t104<0 then (some (-1)) else (some t104))=some r:=H
   have A11:=Aside0.mk A110
   clear A110
   by_cases c12:t104<0
   ·rw [if_pos c12] at H
    have c12b0:decide (t104<0)=true:=decide_eq_true c12
    clear c12
    obtain rfl:=Option.some.inj H
    go_enter Try.func6,Try.ntmps6
    go_wp2_with (first|((with_reducible refine gate_dst (N:=2) rfl ?_);refine box_event ?hg (N:=2) ?hd (cs:=#[.int .i64 a0_0,.int .i64 a0_1,.int .i64 a0_2,.int .i64 a0_3,.slice A0_4 l0_4.length c0_4,.slice A0_5 l0_5.length c0_5,.slice A0_6 l0_6.length c0_6]) (t:=26) ?hr ?_;(case hd=>rfl);(case hg=>rfl);(case hr=>first|(go_simp;done)|(go_simp;rfl));intro gb101 hg w13 hbox hb;have n0_:=Aside0.mk (below_step (by repeat (first|(with_reducible first|exact HB.out|apply below_alloc|apply pw_below_drewN|apply below_drew1)|exact HB.out)) hb);have n1_:=Aside0.mk (hbox);have n2_:=Aside0.mk ((by rw [hg];exact (below_size (by repeat (first|(with_reducible first|exact HB.out|apply below_alloc|apply pw_below_drewN|apply below_drew1)|exact HB.out))):w.heap.size≤gb101));have n3_:=Aside0.mk ((by rw [hg];exact (below_size (by repeat (first|(with_reducible first|exact HB.out|apply below_alloc|apply pw_below_drewN|apply below_drew1)|exact HB.out))):w.heap.size≤gb101));clear HB;have HB:=n0_;have BK101:=n1_;have GW101:=n2_;have GE101:=n3_;clear n0_ n1_ n2_ n3_;clear hb hbox hg;have hcz14_0:w13.cell? ⟨gb101,0,none⟩=some (.int .i64 a0_0):=(blk_cell BK101.out 0).trans rfl;have hcz14_1:w13.cell? ⟨gb101,1,none⟩=some (.int .i64 a0_1):=(blk_cell BK101.out 1).trans rfl;have hcz14_2:w13.cell? ⟨gb101,2,none⟩=some (.int .i64 a0_2):=(blk_cell BK101.out 2).trans rfl;have hcz14_3:w13.cell? ⟨gb101,3,none⟩=some (.int .i64 a0_3):=(blk_cell BK101.out 3).trans rfl;have hcz14_4:w13.cell? ⟨gb101,4,none⟩=some (.slice A0_4 l0_4.length c0_4):=(blk_cell BK101.out 4).trans rfl;have hcz14_5:w13.cell? ⟨gb101,5,none⟩=some (.slice A0_5 l0_5.length c0_5):=(blk_cell BK101.out 5).trans rfl;have hcz14_6:w13.cell? ⟨gb101,6,none⟩=some (.slice A0_6 l0_6.length c0_6):=(blk_cell BK101.out 6).trans rfl;have hfz14_0:=blk_frozen BK101.out 0;have hfz14_1:=blk_frozen BK101.out 1;have hfz14_2:=blk_frozen BK101.out 2;have hfz14_3:=blk_frozen BK101.out 3;have hfz14_4:=blk_frozen BK101.out 4;have hfz14_5:=blk_frozen BK101.out 5;have hfz14_6:=blk_frozen BK101.out 6)|((with_reducible refine gate_callee (f:=24) rfl ?_);refine goesL_ (some 8) rfl rfl Try.func24 (by kernel_rfl) rfl #[.slice A0_4 l0_4.length c0_4,.int .i64 a1] rfl (by (try simp only [List.map_toArray,List.map_cons,List.map_nil]);first|done|rfl|(simp only [List.length_drop,List.length_take];rfl)) ?_;(with_reducible refine (laws_szGlyphS.calls _ _ l0_4 a1 t102 _ ?side1 ?side2 A3.out).mono ?_);(case side1=>repeat (first|exact (Kd.C_below HR0_4.out HB.out)|(with_reducible refine Kd.C_alloc ?_ _)|(with_reducible refine Kd.C_drewN ?_ _)|(with_reducible refine Kd.C_drew ?_)));(case side2=>exact HC0_4.out);rintro e w' ⟨rfl,⟨nd,rfl⟩⟩;refine ⟨_,rfl,?_⟩)|((with_reducible refine gate_callee (f:=25) rfl ?_);refine goesL_ (some 14) rfl rfl Try.func25 (by kernel_rfl) rfl #[.slice A0_5 l0_5.length c0_5,.int .i64 t102] rfl (by (try simp only [List.map_toArray,List.map_cons,List.map_nil]);first|done|rfl|(simp only [List.length_drop,List.length_take];rfl)) ?_;(with_reducible refine (laws_szKernS.calls _ _ l0_5 t102 t103 _ ?side1 ?side2 A7.out).mono ?_);(case side1=>repeat (first|exact (Kd.C_below HR0_5.out (by repeat (first|(with_reducible first|exact HB.out|apply below_alloc|apply pw_below_drewN|apply below_drew1|refine below_set ?_ GE101.out)|exact HB.out)))|(with_reducible refine Kd.C_alloc ?_ _)|(with_reducible refine Kd.C_drewN ?_ _)|(with_reducible refine Kd.C_drew ?_)));(case side2=>exact HC0_5.out);rintro e w' ⟨rfl,⟨nd,rfl⟩⟩;refine ⟨_,rfl,?_⟩)|((with_reducible refine gate_callee (f:=26) rfl ?_);refine goesL_ (some 20) rfl rfl Try.func26 (by kernel_rfl) rfl #[.slice A0_6 l0_6.length c0_6,.int .i64 t103] rfl (by (try simp only [List.map_toArray,List.map_cons,List.map_nil]);first|done|rfl|(simp only [List.length_drop,List.length_take];rfl)) ?_;(with_reducible refine (laws_szLigS.calls _ _ l0_6 t103 t104 _ ?side1 ?side2 A11.out).mono ?_);(case side1=>repeat (first|exact (Kd.C_below HR0_6.out (by repeat (first|(with_reducible first|exact HB.out|apply below_alloc|apply pw_below_drewN|apply below_drew1|refine below_set ?_ GE101.out)|exact HB.out)))|(with_reducible refine Kd.C_alloc ?_ _)|(with_reducible refine Kd.C_drewN ?_ _)|(with_reducible refine Kd.C_drew ?_)));(case side2=>exact HC0_6.out);rintro e w' ⟨rfl,⟨nd,rfl⟩⟩;refine ⟨_,rfl,?_⟩))
    go_ret
    exact ⟨by first|rfl|(simp [errW_none,errW_some]<;>rfl)|(simp [*,errW_none,errW_some]<;>rfl),by repeat (first|(with_reducible first|exact HB.out|apply below_alloc|apply pw_below_drewN|apply below_drew1|refine below_set ?_ GE101.out)|exact HB.out)⟩
   ·rw [if_neg c12] at H
    have c12b0:decide (t104<0)=false:=decide_eq_false c12
    clear c12
    obtain rfl:=Option.some.inj H
    go_enter Try.func6,Try.ntmps6
    go_wp2_with (first|((with_reducible refine gate_dst (N:=2) rfl ?_);refine box_event ?hg (N:=2) ?hd (cs:=#[.int .i64 a0_0,.int .i64 a0_1,.int .i64 a0_2,.int .i64 a0_3,.slice A0_4 l0_4.length c0_4,.slice A0_5 l0_5.length c0_5,.slice A0_6 l0_6.length c0_6]) (t:=26) ?hr ?_;(case hd=>rfl);(case hg=>rfl);(case hr=>first|(go_simp;done)|(go_simp;rfl));intro gb101 hg w15 hbox hb;have n0_:=Aside0.mk (below_step (by repeat (first|(with_reducible first|exact HB.out|apply below_alloc|apply pw_below_drewN|apply below_drew1)|exact HB.out)) hb);have n1_:=Aside0.mk (hbox);have n2_:=Aside0.mk ((by rw [hg];exact (below_size (by repeat (first|(with_reducible first|exact HB.out|apply below_alloc|apply pw_below_drewN|apply below_drew1)|exact HB.out))):w.heap.size≤gb101));have n3_:=Aside0.mk ((by rw [hg];exact (below_size (by repeat (first|(with_reducible first|exact HB.out|apply below_alloc|apply pw_below_drewN|apply below_drew1)|exact HB.out))):w.heap.size≤gb101));clear HB;have HB:=n0_;have BK101:=n1_;have GW101:=n2_;have GE101:=n3_;clear n0_ n1_ n2_ n3_;clear hb hbox hg;have hcz16_0:w15.cell? ⟨gb101,0,none⟩=some (.int .i64 a0_0):=(blk_cell BK101.out 0).trans rfl;have hcz16_1:w15.cell? ⟨gb101,1,none⟩=some (.int .i64 a0_1):=(blk_cell BK101.out 1).trans rfl;have hcz16_2:w15.cell? ⟨gb101,2,none⟩=some (.int .i64 a0_2):=(blk_cell BK101.out 2).trans rfl;have hcz16_3:w15.cell? ⟨gb101,3,none⟩=some (.int .i64 a0_3):=(blk_cell BK101.out 3).trans rfl;have hcz16_4:w15.cell? ⟨gb101,4,none⟩=some (.slice A0_4 l0_4.length c0_4):=(blk_cell BK101.out 4).trans rfl;have hcz16_5:w15.cell? ⟨gb101,5,none⟩=some (.slice A0_5 l0_5.length c0_5):=(blk_cell BK101.out 5).trans rfl;have hcz16_6:w15.cell? ⟨gb101,6,none⟩=some (.slice A0_6 l0_6.length c0_6):=(blk_cell BK101.out 6).trans rfl;have hfz16_0:=blk_frozen BK101.out 0;have hfz16_1:=blk_frozen BK101.out 1;have hfz16_2:=blk_frozen BK101.out 2;have hfz16_3:=blk_frozen BK101.out 3;have hfz16_4:=blk_frozen BK101.out 4;have hfz16_5:=blk_frozen BK101.out 5;have hfz16_6:=blk_frozen BK101.out 6)|((with_reducible refine gate_callee (f:=24) rfl ?_);refine goesL_ (some 8) rfl rfl Try.func24 (by kernel_rfl) rfl #[.slice A0_4 l0_4.length c0_4,.int .i64 a1] rfl (by (try simp only [List.map_toArray,List.map_cons,List.map_nil]);first|done|rfl|(simp only [List.length_drop,List.length_take];rfl)) ?_;(with_reducible refine (laws_szGlyphS.calls _ _ l0_4 a1 t102 _ ?side1 ?side2 A3.out).mono ?_);(case side1=>repeat (first|exact (Kd.C_below HR0_4.out HB.out)|(with_reducible refine Kd.C_alloc ?_ _)|(with_reducible refine Kd.C_drewN ?_ _)|(with_reducible refine Kd.C_drew ?_)));(case side2=>exact HC0_4.out);rintro e w' ⟨rfl,⟨nd,rfl⟩⟩;refine ⟨_,rfl,?_⟩)|((with_reducible refine gate_callee (f:=25) rfl ?_);refine goesL_ (some 14) rfl rfl Try.func25 (by kernel_rfl) rfl #[.slice A0_5 l0_5.length c0_5,.int .i64 t102] rfl (by (try simp only [List.map_toArray,List.map_cons,List.map_nil]);first|done|rfl|(simp only [List.length_drop,List.length_take];rfl)) ?_;(with_reducible refine (laws_szKernS.calls _ _ l0_5 t102 t103 _ ?side1 ?side2 A7.out).mono ?_);(case side1=>repeat (first|exact (Kd.C_below HR0_5.out (by repeat (first|(with_reducible first|exact HB.out|apply below_alloc|apply pw_below_drewN|apply below_drew1|refine below_set ?_ GE101.out)|exact HB.out)))|(with_reducible refine Kd.C_alloc ?_ _)|(with_reducible refine Kd.C_drewN ?_ _)|(with_reducible refine Kd.C_drew ?_)));(case side2=>exact HC0_5.out);rintro e w' ⟨rfl,⟨nd,rfl⟩⟩;refine ⟨_,rfl,?_⟩)|((with_reducible refine gate_callee (f:=26) rfl ?_);refine goesL_ (some 20) rfl rfl Try.func26 (by kernel_rfl) rfl #[.slice A0_6 l0_6.length c0_6,.int .i64 t103] rfl (by (try simp only [List.map_toArray,List.map_cons,List.map_nil]);first|done|rfl|(simp only [List.length_drop,List.length_take];rfl)) ?_;(with_reducible refine (laws_szLigS.calls _ _ l0_6 t103 t104 _ ?side1 ?side2 A11.out).mono ?_);(case side1=>repeat (first|exact (Kd.C_below HR0_6.out (by repeat (first|(with_reducible first|exact HB.out|apply below_alloc|apply pw_below_drewN|apply below_drew1|refine below_set ?_ GE101.out)|exact HB.out)))|(with_reducible refine Kd.C_alloc ?_ _)|(with_reducible refine Kd.C_drewN ?_ _)|(with_reducible refine Kd.C_drew ?_)));(case side2=>exact HC0_6.out);rintro e w' ⟨rfl,⟨nd,rfl⟩⟩;refine ⟨_,rfl,?_⟩))
    go_ret
    exact ⟨by first|rfl|(simp [errW_none,errW_some]<;>rfl)|(simp [*,errW_none,errW_some]<;>rfl),by repeat (first|(with_reducible first|exact HB.out|apply below_alloc|apply pw_below_drewN|apply below_drew1|refine below_set ?_ GE101.out)|exact HB.out)⟩
/-! ### laws_toGlyph: function 54 -/
def laws_toGlyph.f (a0_0:Int) (a0_1:Int):Option (Int×Int):=some (a0_0,a0_1)
set_option maxHeartbeats 8000000 in
set_option maxRecDepth 100000 in
theorem laws_toGlyph.calls (a0_0:Int) (a0_1:Int) (r1:Int) (r2:Int) (w:World) (h:laws_toGlyph.f a0_0 a0_1=some (r1,r2)) :
  Calls Try.prog 54 #[.agg #[.int .i64 a0_0,.int .i64 a0_1]] w fun e w'=>e=.returned (.agg #[.int .i64 r1,.int .i64 r2])∧Below w.heap.size w w':=by
 have hu86:=Try.underlying86
 have hu79:=Try.underlying79
 have HB:=Aside0.mk (Below.refl w.heap.size w)
 have H:(some (a0_0,a0_1))=some (r1,r2):=h
 clear h
 simp only [Option.some.injEq,Prod.mk.injEq] at H
 obtain ⟨rfl,rfl⟩:=H
 go_enter Try.func54,Try.ntmps54
 go_wp2_with (first|((with_reducible refine gate_dst (N:=1) rfl ?_);refine box_event ?hg (N:=1) ?hd (cs:=#[.int .i64 a0_0,.int .i64 a0_1]) (t:=86) ?hr ?_;(case hd=>rfl);(case hg=>rfl);(case hr=>first|(go_simp;done)|(go_simp;rfl));intro gb105 hg w2 hbox hb;have n0_:=Aside0.mk (below_step (by repeat (first|(with_reducible first|exact HB.out|apply below_alloc|apply pw_below_drewN|apply below_drew1)|exact HB.out)) hb);have n1_:=Aside0.mk (hbox);have n2_:=Aside0.mk ((by rw [hg];exact (below_size (by repeat (first|(with_reducible first|exact HB.out|apply below_alloc|apply pw_below_drewN|apply below_drew1)|exact HB.out))):w.heap.size≤gb105));have n3_:=Aside0.mk ((by rw [hg];exact (below_size (by repeat (first|(with_reducible first|exact HB.out|apply below_alloc|apply pw_below_drewN|apply below_drew1)|exact HB.out))):w.heap.size≤gb105));clear HB;have HB:=n0_;have BK105:=n1_;have GW105:=n2_;have GE105:=n3_;clear n0_ n1_ n2_ n3_;clear hb hbox hg)|((with_reducible refine gate_dst (N:=2) rfl ?_);refine box_event ?hg (N:=2) ?hd (cs:=#[.int .i64 0,.int .i64 0]) (t:=79) ?hr ?_;(case hd=>rfl);(case hg=>rfl);(case hr=>first|(go_simp;done)|(go_simp;rfl));intro gb106 hg w3 hbox hb;have n0_:=Aside0.mk (blk_below (g:=gb105) (o:=.cells #[.int .i64 a0_0,.int .i64 a0_1] 86 (0,0)) (by (with_reducible repeat (first|refine blk_drewN ?_ _|refine blk_drew ?_|refine blk_alloc ?_ _));exact BK105.out) hb);have n1_:=Aside0.mk (below_step (by repeat (first|(with_reducible first|exact HB.out|apply below_alloc|apply pw_below_drewN|apply below_drew1|refine below_set ?_ GE105.out)|exact HB.out)) hb);have n2_:=Aside0.mk (hbox);have n3_:=Aside0.mk ((by rw [hg];exact (below_size (by repeat (first|(with_reducible first|exact HB.out|apply below_alloc|apply pw_below_drewN|apply below_drew1|refine below_set ?_ GE105.out)|exact HB.out))):w.heap.size≤gb106));have n4_:=Aside0.mk ((by rw [hg];exact (below_size (by repeat (first|(with_reducible first|exact HB.out|apply below_alloc|apply pw_below_drewN|apply below_drew1|refine below_set ?_ GE105.out)|exact HB.out))):w.heap.size≤gb106));have n5_:=Aside0.mk ((by rw [hg];exact Nat.ne_of_lt (blk_lt (g:=gb105) (o:=.cells #[.int .i64 a0_0,.int .i64 a0_1] 86 (0,0)) (by (with_reducible repeat (first|refine blk_drewN ?_ _|refine blk_drew ?_|refine blk_alloc ?_ _));exact BK105.out)):gb105≠gb106));have n6_:=Aside0.mk ((by rw [hg];exact Nat.ne_of_gt (blk_lt (g:=gb105) (o:=.cells #[.int .i64 a0_0,.int .i64 a0_1] 86 (0,0)) (by (with_reducible repeat (first|refine blk_drewN ?_ _|refine blk_drew ?_|refine blk_alloc ?_ _));exact BK105.out)):gb106≠gb105));clear BK105;clear HB;have BK105:=n0_;have HB:=n1_;have BK106:=n2_;have GW106:=n3_;have GE106:=n4_;have NB105_106:=n5_;have NB106_105:=n6_;clear n0_ n1_ n2_ n3_ n4_ n5_ n6_;clear hb hbox hg)|((with_reducible refine gate_dst (N:=3) rfl ?_);refine box_event ?hg (N:=3) ?hd (cs:=#[.int .i64 0,.int .i64 0]) (t:=79) ?hr ?_;(case hd=>rfl);(case hg=>rfl);(case hr=>first|(go_simp;done)|(go_simp;rfl));intro gb107 hg w4 hbox hb;have n0_:=Aside0.mk (blk_below (g:=gb105) (o:=.cells #[.int .i64 a0_0,.int .i64 a0_1] 86 (0,0)) (by (with_reducible repeat (first|refine blk_drewN ?_ _|refine blk_drew ?_|refine blk_alloc ?_ _));exact BK105.out) hb);have n1_:=Aside0.mk (blk_below (g:=gb106) (o:=.cells #[.int .i64 0,.int .i64 0] 79 (0,0)) (by (with_reducible repeat (first|refine blk_drewN ?_ _|refine blk_drew ?_|refine blk_alloc ?_ _));exact BK106.out) hb);have n2_:=Aside0.mk (below_step (by repeat (first|(with_reducible first|exact HB.out|apply below_alloc|apply pw_below_drewN|apply below_drew1|refine below_set ?_ GE105.out|refine below_set ?_ GE106.out)|exact HB.out)) hb);have n3_:=Aside0.mk (hbox);have n4_:=Aside0.mk ((by rw [hg];exact (below_size (by repeat (first|(with_reducible first|exact HB.out|apply below_alloc|apply pw_below_drewN|apply below_drew1|refine below_set ?_ GE105.out|refine below_set ?_ GE106.out)|exact HB.out))):w.heap.size≤gb107));have n5_:=Aside0.mk ((by rw [hg];exact (below_size (by repeat (first|(with_reducible first|exact HB.out|apply below_alloc|apply pw_below_drewN|apply below_drew1|refine below_set ?_ GE105.out|refine below_set ?_ GE106.out)|exact HB.out))):w.heap.size≤gb107));have n6_:=Aside0.mk ((by rw [hg];exact Nat.ne_of_lt (blk_lt (g:=gb105) (o:=.cells #[.int .i64 a0_0,.int .i64 a0_1] 86 (0,0)) (by (with_reducible repeat (first|refine blk_drewN ?_ _|refine blk_drew ?_|refine blk_alloc ?_ _));exact BK105.out)):gb105≠gb107));have n7_:=Aside0.mk ((by rw [hg];exact Nat.ne_of_gt (blk_lt (g:=gb105) (o:=.cells #[.int .i64 a0_0,.int .i64 a0_1] 86 (0,0)) (by (with_reducible repeat (first|refine blk_drewN ?_ _|refine blk_drew ?_|refine blk_alloc ?_ _));exact BK105.out)):gb107≠gb105));have n8_:=Aside0.mk ((by rw [hg];exact Nat.ne_of_lt (blk_lt (g:=gb106) (o:=.cells #[.int .i64 0,.int .i64 0] 79 (0,0)) (by (with_reducible repeat (first|refine blk_drewN ?_ _|refine blk_drew ?_|refine blk_alloc ?_ _));exact BK106.out)):gb106≠gb107));have n9_:=Aside0.mk ((by rw [hg];exact Nat.ne_of_gt (blk_lt (g:=gb106) (o:=.cells #[.int .i64 0,.int .i64 0] 79 (0,0)) (by (with_reducible repeat (first|refine blk_drewN ?_ _|refine blk_drew ?_|refine blk_alloc ?_ _));exact BK106.out)):gb107≠gb106));clear BK105;clear BK106;clear HB;have BK105:=n0_;have BK106:=n1_;have HB:=n2_;have BK107:=n3_;have GW107:=n4_;have GE107:=n5_;have NB105_107:=n6_;have NB107_105:=n7_;have NB106_107:=n8_;have NB107_106:=n9_;clear n0_ n1_ n2_ n3_ n4_ n5_ n6_ n7_ n8_ n9_;clear hb hbox hg;have hnb5:=NB105_106.out;have hnc5:=NB106_105.out;have hnb6:=NB105_107.out;have hnc6:=NB107_105.out;have hcz7_0:w4.cell? ⟨gb105,0,none⟩=some (.int .i64 a0_0):=(blk_cell BK105.out 0).trans rfl;have hcz7_1:w4.cell? ⟨gb105,1,none⟩=some (.int .i64 a0_1):=(blk_cell BK105.out 1).trans rfl;have hfz7_0:=blk_frozen BK105.out 0;have hfz7_1:=blk_frozen BK105.out 1;have hnb8:=NB107_106.out;have hnc8:=NB106_107.out;have hcz9_0:w4.cell? ⟨gb107,0,none⟩=some (.int .i64 0):=(blk_cell BK107.out 0).trans rfl;have hcz9_1:w4.cell? ⟨gb107,1,none⟩=some (.int .i64 0):=(blk_cell BK107.out 1).trans rfl;have hfz9_0:=blk_frozen BK107.out 0;have hfz9_1:=blk_frozen BK107.out 1;have hcz10_0:w4.cell? ⟨gb106,0,none⟩=some (.int .i64 0):=(blk_cell BK106.out 0).trans rfl;have hcz10_1:w4.cell? ⟨gb106,1,none⟩=some (.int .i64 0):=(blk_cell BK106.out 1).trans rfl;have hfz10_0:=blk_frozen BK106.out 0;have hfz10_1:=blk_frozen BK106.out 1))
 refine bodyPost_ret (results_cell_row rfl _ _ gb106 79 #[.int .i64 a0_0,.int .i64 a0_1] (0,0) _ rfl (by (with_reducible repeat (first|refine blk_drewN ?_ _|refine blk_drew ?_|refine blk_alloc ?_ _));refine blk_put (cs:=#[.int .i64 a0_0,.int .i64 0]) ?_ 1 _ rfl;(with_reducible repeat (first|refine blk_drewN ?_ _|refine blk_drew ?_|refine blk_alloc ?_ _));refine blk_put (cs:=#[.int .i64 0,.int .i64 0]) ?_ 0 _ rfl;(with_reducible repeat (first|refine blk_drewN ?_ _|refine blk_drew ?_|refine blk_alloc ?_ _));refine blk_far ?_ NB106_107.out _;(with_reducible repeat (first|refine blk_drewN ?_ _|refine blk_drew ?_|refine blk_alloc ?_ _));refine blk_far ?_ NB106_107.out _;(with_reducible repeat (first|refine blk_drewN ?_ _|refine blk_drew ?_|refine blk_alloc ?_ _));exact BK106.out) Try.underlying79 rfl (by kernel_rfl)) rfl ?_
 exact ⟨by first|rfl|(simp [errW_none,errW_some]<;>rfl)|(simp [*,errW_none,errW_some]<;>rfl),by repeat (first|(with_reducible first|exact HB.out|apply below_alloc|apply pw_below_drewN|apply below_drew1|refine below_set ?_ GE105.out|refine below_set ?_ GE106.out|refine below_set ?_ GE107.out)|exact HB.out)⟩
/-! ### laws_toGlyphS: function 28 -/
def laws_toGlyphS.l0:Nat→List (S86)→List (S79)→Int→Option ((List (S79)))
 |0,_,_,_=>none
 |k+1,x0,x3,x4=>if x4<(x0.length:Int) then (if 0≤x4 then ((laws_toGlyph.f ((rd_T86 x0 x4).f0) ((rd_T86 x0 x4).f1)).bind fun bt112=>(if x4<(x3.length:Int) then (laws_toGlyphS.l0 k x0 (x3.set (x4:Int).toNat (⟨bt112.1,bt112.2⟩:S79)) (wrap64 (x4+1))) else (none))) else (none)) else (some x3)
def laws_toGlyphS.f (k:Nat) (l0:List (S86)):Option ((List (S79))):=if 0≤(l0.length:Int) then (if ((l0.length:Int):Int).toNat≤17592186044416 then (laws_toGlyphS.l0 k l0 (List.replicate ((l0.length:Int):Int).toNat z79) 0) else (none)) else (none)
theorem laws_toGlyphS.mono_l:∀ k,(∀ y0 y1 y2,LeO (laws_toGlyphS.l0 k y0 y1 y2) (laws_toGlyphS.l0 (k+1) y0 y1 y2))
 |0=>fun _ _ _ r h=>by simp [laws_toGlyphS.l0] at h
 |k+1=>by
  have ih0:=laws_toGlyphS.mono_l k
  ·intro y0 y1 y2
   unfold laws_toGlyphS.l0
   repeat' first
   |(with_reducible exact ih0 _ _ _)
   |(with_reducible exact LeO.refl _)
   |(with_reducible exact LeO.none _)
   |(with_reducible refine LeO.ite ?_ ?_)
   |(with_reducible refine LeO.bind ?_ (fun _=>?_))
   |exact ih0 _ _ _
   |exact LeO.none _
   |refine LeO.ite ?_ ?_
   |refine LeO.bind ?_ (fun _=>?_)
theorem laws_toGlyphS.mono:∀ a0 k,LeO (laws_toGlyphS.f k a0) (laws_toGlyphS.f (k+1) a0):=by
 intro a0 k
 have ih0:=laws_toGlyphS.mono_l k
 unfold laws_toGlyphS.f
 repeat' first
   |(with_reducible exact ih0 _ _ _)
   |(with_reducible exact LeO.refl _)
   |(with_reducible exact LeO.none _)
   |(with_reducible refine LeO.ite ?_ ?_)
   |(with_reducible refine LeO.bind ?_ (fun _=>?_))
   |exact ih0 _ _ _
   |exact LeO.none _
   |refine LeO.ite ?_ ?_
   |refine LeO.bind ?_ (fun _=>?_)
set_option maxHeartbeats 8000000 in
set_option maxRecDepth 100000 in
theorem laws_toGlyphS.calls (k:Nat) (A0:Option Addr) (c0:Nat) (l0:List (S86)) (r:List (S79)) (w:World) (hr0:Kd.C k86 w A0 l0.length l0) (hc0:l0.length≤c0) (h:laws_toGlyphS.f k l0=some r) :
  Calls Try.prog 28 #[.slice A0 l0.length c0] w fun e w'=>∃ v0_:Value,e=.returned (v0_)∧Kd.R k79 79 w' w.heap.size (fun _=>True) v0_ r∧Below w.heap.size w w':=by
 have hu86:=Try.underlying86
 have hu79:=Try.underlying79
 have HR0:=Aside0.mk hr0
 have HC0:=Aside0.mk hc0
 clear hr0 hc0
 have HB:=Aside0.mk (Below.refl w.heap.size w)
 have H:(if 0≤(l0.length:Int) then (if ((l0.length:Int):Int).toNat≤17592186044416 then (laws_toGlyphS.l0 k l0 (List.replicate ((l0.length:Int):Int).toNat z79) 0) else (none)) else (none))=some r:=h
 clear h
 by_cases c2:0≤(l0.length:Int)
 ·rw [if_pos c2] at H
  have c2b0:=eq_true c2
  have c2b1:decide (0≤(l0.length:Int))=true:=decide_eq_true c2
  clear c2
  by_cases c3:((l0.length:Int):Int).toNat≤17592186044416
  ·rw [if_pos c3] at H
   have c3b0:=eq_true c3
   have c3b1:decide (((l0.length:Int):Int).toNat≤17592186044416)=true:=decide_eq_true c3
   clear c3
   obtain ⟨y108,hy108⟩:∃ y_:List (S79),y_=(List.replicate ((l0.length:Int):Int).toNat z79):=⟨_,rfl⟩
   replace H:(laws_toGlyphS.l0 k l0 y108 0)=some r:=by first|(rw [hy108];with_reducible exact H)|(have H2_:=(Option.bind_some _ _).symm.trans H;rw [hy108];with_reducible exact H2_)|(have H2_:=(Option.bind_some _ _).symm.trans H;with_reducible exact H2_)|with_reducible exact H|(rw [hy108];exact H)|exact H
   have Ny108:=Aside0.mk hy108
   clear hy108
   have H':=Aside0.mk H
   clear H
   go_enter Try.func28,Try.ntmps28
   go_wp2_with (first|((with_reducible refine gate_dst (N:=7) rfl ?_);refine Kd.R_make k79 _ 79 rfl (N:=7) rfl 30 _ _ rfl (l0.length:Int) rfl rfl Try.underlying30 (.agg #[(.int .i64 0),(.int .i64 0)]) 16 info79 rfl (by decide) (by omega) z79 (ok:=fun _=>True) (okp:=fun _=>True) (k79_mkM _ _ _ z79) (fun _ hk=>hk) trivial (of_decide_eq_true (by first|(with_reducible assumption)|assumption)) (Nat.le_trans (Nat.mul_le_mul_right _ (of_decide_eq_true (by first|(with_reducible assumption)|assumption):(l0.length:Int).toNat≤17592186044416)) (by omega)) (Below.refl _ _) (Nat.le_refl _) ?_;intro v109 w4 ho5 hb hg_ hnew_;clear hg_ hnew_;(first|rw [← Ny108.out] at ho5|(simp only [Int.reduceToNat] at ho5;rw [← Ny108.out] at ho5));have n0_:=Aside0.mk (Kd.R_lower ho5 (below_size (by repeat (first|(with_reducible first|exact HB.out|apply below_alloc|apply pw_below_drewN|apply below_drew1)|exact HB.out))));have n1_:=Aside0.mk (below_step (by repeat (first|(with_reducible first|exact HB.out|apply below_alloc|apply pw_below_drewN|apply below_drew1)|exact HB.out)) hb);clear HB;have HO110:=n0_;have HB:=n1_;clear n0_ n1_;clear hb ho5))
   go_loopg [4] k (fun kq v4 w'=>∃ (x3_1:List (S79)) (x4_1:Int),v4=.int .i64 x4_1∧Aside0 (laws_toGlyphS.l0 kq l0 x3_1 x4_1=some r)∧Aside0 (kq≤k)∧Aside0 (Kd.R k79 79 w' w.heap.size (fun _=>True) v109 x3_1)∧Aside0 (Below w.heap.size w w'))
   case atStart=>exact ⟨(y108),(0),(by first|rfl|(simp;done)|(simp [*];done)),H',⟨Nat.le_refl _⟩,⟨by (with_reducible repeat (first|apply Kd.R_alloc|apply Kd.R_drewN|apply Kd.R_drew));exact HO110.out⟩,⟨by repeat (first|(with_reducible first|exact HB.out|apply below_alloc|apply pw_below_drewN|apply below_drew1)|exact HB.out)⟩⟩
   case round=>
    clear H'
    try clear c2
    try clear c2b0
    try clear c2b1
    try clear p2
    try clear c3
    try clear c3b0
    try clear c3b1
    obtain ⟨x3_1,x4_1,rfl,HA,HK1,HO_3,HB⟩:=hrel
    cases gk with
    |zero=>exact absurd HA.out (by simp [laws_toGlyphS.l0])
    |succ k1=>
     have H:=HA.out
     clear HA
     simp only [laws_toGlyphS.l0] at H
     by_cases c6:x4_1<(l0.length:Int)
     ·rw [if_pos c6] at H
      have c6b0:decide (x4_1<(l0.length:Int))=true:=decide_eq_true c6
      clear c6
      by_cases c7:0≤x4_1
      ·rw [if_pos c7] at H
       have c7b0:decide (0≤x4_1)=true:=decide_eq_true c7
       clear c7
       replace H:=Option.bind_eq_some_iff.mp H
       obtain ⟨⟨t112,t113⟩,A80,H⟩:=H
       replace H:(if x4_1<(x3_1.length:Int) then (laws_toGlyphS.l0 k1 l0 (x3_1.set (x4_1:Int).toNat (⟨t112,t113⟩:S79)) (wrap64 (x4_1+1))) else (none))=some r:=H
       have A8:=Aside0.mk A80
       clear A80
       by_cases c9:x4_1<(x3_1.length:Int)
       ·rw [if_pos c9] at H
        have c9b0:decide (x4_1<(x3_1.length:Int))=true:=decide_eq_true c9
        clear c9
        obtain ⟨y114,hy114⟩:∃ y_:List (S79),y_=(x3_1.set (x4_1:Int).toNat (⟨t112,t113⟩:S79)):=⟨_,rfl⟩
        replace H:(laws_toGlyphS.l0 k1 l0 y114 (wrap64 (x4_1+1)))=some r:=by first|(rw [hy114];with_reducible exact H)|(have H2_:=(Option.bind_some _ _).symm.trans H;rw [hy114];with_reducible exact H2_)|(have H2_:=(Option.bind_some _ _).symm.trans H;with_reducible exact H2_)|with_reducible exact H|(rw [hy114];exact H)|exact H
        have Ny114:=Aside0.mk hy114
        clear hy114
        have H':=Aside0.mk H
        clear H
        have p111:0≤(x4_1:Int):=of_decide_eq_true (by first|(with_reducible assumption)|assumption)
        have q111:x4_1<(l0.length:Int):=of_decide_eq_true (by first|(with_reducible assumption)|assumption)
        obtain ⟨ad111,e111,hx111_0,hx111_1⟩:=at_T86 HR0.out x4_1 p111 q111
        cases e111
        replace hx111_0:=(HB.out.cell (World.block_lt_of_cell? w _ hx111_0)).trans hx111_0
        replace hx111_1:=(HB.out.cell (World.block_lt_of_cell? w _ hx111_1)).trans hx111_1
        replace p111:=eq_true p111
        replace q111:=eq_true q111
        go_wp2_with (first|((with_reducible refine gate_callee (f:=54) rfl ?_);refine goesL_ (some 20) rfl rfl Try.func54 (by kernel_rfl) rfl #[.agg #[.int .i64 ((rd_T86 l0 x4_1).f0),.int .i64 ((rd_T86 l0 x4_1).f1)]] rfl (by (try simp only [List.map_toArray,List.map_cons,List.map_nil]);first|done|rfl|(simp only [List.length_drop,List.length_take];rfl)) ?_;(with_reducible refine (laws_toGlyph.calls ((rd_T86 l0 x4_1).f0) ((rd_T86 l0 x4_1).f1) t112 t113 _ A8.out).mono ?_);rintro e w11 ⟨rfl,hb⟩;refine ⟨_,rfl,?_⟩;have n0_:=Aside0.mk (Kd.R_below (by (with_reducible repeat (first|apply Kd.R_alloc|apply Kd.R_drewN|apply Kd.R_drew));exact HO_3.out) hb);have n1_:=Aside0.mk (below_step (by repeat (first|(with_reducible first|exact HB.out|apply below_alloc|apply pw_below_drewN|apply below_drew1)|exact HB.out)) hb);clear HO_3;clear HB;have HO_3:=n0_;have HB:=n1_;clear n0_ n1_;(try clear hb);(try clear hb2);(try clear hk);(try clear hi);have p10:0≤(x4_1:Int):=of_decide_eq_true (by first|(with_reducible assumption)|assumption);have q10:(x4_1:Int)<((x3_1.length:Int):Int):=of_decide_eq_true (by first|(with_reducible assumption)|assumption);obtain ⟨go10,co10,eo10,gb10,gl10,cl10,HG10⟩:=Kd.R_form HO_3.out (by omega);(first|cases eo10|(injection eo10 with ea_ en_ ec_;(first|subst ea_|(injection ea_ with ea_;subst ea_));subst ec_;clear en_));have GB10:=Aside0.mk gb10;have GG10:=Aside0.mk HG10;clear gb10 gl10 HG10;obtain ⟨ce10,hcl10,hM10,hcc10,hfr10⟩:=Kd.R_elem HO_3.out z79 (x4_1:Int) p10 q10;obtain rfl:=k79_openM hM10;have hx10_0:w11.cell? ⟨go10,(x4_1:Int).toNat*2,none⟩=some (.int .i64 ((rd_T79 x3_1 x4_1).f0)):=hcc10 0 _ rfl;have hx10_1:w11.cell? ⟨go10,(x4_1:Int).toNat*2+1,none⟩=some (.int .i64 ((rd_T79 x3_1 x4_1).f1)):=hcc10 1 _ rfl;have hf10_0:w11.frozen? ⟨go10,(x4_1:Int).toNat*2,none⟩=false:=hfr10 0;have hf10_1:w11.frozen? ⟨go10,(x4_1:Int).toNat*2+1,none⟩=false:=hfr10 1;clear hcl10 hcc10 hfr10 hM10;replace p10:=eq_true p10;replace q10:=eq_true q10;have HX12:=Aside0.mk (show Kd.R k79 79 w11 w.heap.size (fun _=>True) (.slice (some ⟨go10,0,none⟩) x3_1.length co10) x3_1 from (by (with_reducible repeat (first|apply Kd.R_alloc|apply Kd.R_drewN|apply Kd.R_drew));exact HO_3.out));obtain ⟨ce12,hcl12,hM12,hcc12,hfr12⟩:=Kd.R_elem HX12.out z79 (x4_1:Int) (of_decide_eq_true (by first|(with_reducible assumption)|assumption)) (by have h_:(x4_1:Int)<((x3_1.length:Int):Int):=of_decide_eq_true (by first|(with_reducible assumption)|assumption);first|exact h_|(have e_:=(Kd.R_reads' HO_3.out).1;omega)|simpa using h_);obtain rfl:=k79_openM hM12;have HP12:=Kd.R_seg HX12.out (x4_1:Int) (of_decide_eq_true (by first|(with_reducible assumption)|assumption)) (by have h_:(x4_1:Int)<((x3_1.length:Int):Int):=of_decide_eq_true (by first|(with_reducible assumption)|assumption);first|exact h_|(have e_:=(Kd.R_reads' HO_3.out).1;omega)|simpa using h_) (seg:=[.int .i64 t112,.int .i64 t113]) (j:=0) hcl12 hcc12 (show 2≤2 from by decide) (x':=(⟨t112,t113⟩:S79)) (k79_mkM _ _ _ (⟨t112,t113⟩:S79)) (fun _ hk=>hk);have hx12_0:=hcc12 0 _ rfl;(try simp only [show (k79).sz=2 from rfl,Nat.mul_one,Nat.add_zero] at hx12_0);have hf12_0:=hfr12 0;(try simp only [show (k79).sz=2 from rfl,Nat.mul_one,Nat.add_zero] at hf12_0);have hx12_1:=hcc12 1 _ rfl;(try simp only [show (k79).sz=2 from rfl,Nat.mul_one,Nat.add_zero] at hx12_1);have hf12_1:=hfr12 1;(try simp only [show (k79).sz=2 from rfl,Nat.mul_one,Nat.add_zero] at hf12_1);clear hcl12 hcc12 hfr12 hM12)|((with_reducible refine gate_store (t:=79) (p:=21) rfl ?_);refine store_event (t:=79) (p:=21) (v:=?vo_w13) (w1:=((w11.setCell ⟨go10,(x4_1:Int).toNat*2,none⟩ (.int .i64 t112)).setCell ⟨go10,(x4_1:Int).toNat*2+1,none⟩ (.int .i64 t113))) ?hg ?ho ?hn ?hr ?_;(case ho=>rfl);(case hg=>rfl);(case hn=>rfl);(case hr=>first|(go_simp;done)|(go_simp;rfl));intro w13 hw;have hg:w11.grownBy w13 (some go10):=(by rw [hw];exact HP12.2);have hp_:Kd.R k79 79 w13 w.heap.size (fun _=>True) (.slice (some ⟨go10,0,none⟩) x3_1.length co10) y114:=(by rw [hw,Ny114.out];exact HP12.1);clear HP12;have n0_:=Aside0.mk (hp_);have n1_:=Aside0.mk ((by rw [hw];exact below_set (below_set (HB.out) GB10.out) GB10.out:Below w.heap.size w w13));clear HO_3;clear HB;have HO_3:=n0_;have HB:=n1_;clear n0_ n1_;clear hg hw hp_))
        go_roundg k1
        case measure=>have:=HK1.out;omega
        case rel=>exact ⟨(y114),(wrap64 (x4_1+1)),(by first|rfl|(simp;done)|(simp [*];done)),H',⟨by have:=HK1.out;omega⟩,⟨by (with_reducible repeat (first|apply Kd.R_alloc|apply Kd.R_drewN|apply Kd.R_drew));exact HO_3.out⟩,⟨by repeat (first|(with_reducible first|exact HB.out|apply below_alloc|apply pw_below_drewN|apply below_drew1)|exact HB.out)⟩⟩
       ·rw [if_neg c9] at H
        exact absurd H (by simp)
      ·rw [if_neg c7] at H
       exact absurd H (by simp)
     ·rw [if_neg c6] at H
      have c6b0:decide (x4_1<(l0.length:Int))=false:=decide_eq_false c6
      clear c6
      obtain rfl:=Option.some.inj H
      go_wp2
      go_ret
      exact ⟨_,by first|rfl|(simp [errW_none,errW_some]<;>rfl)|(simp [*,errW_none,errW_some]<;>rfl),by (with_reducible repeat (first|apply Kd.R_alloc|apply Kd.R_drewN|apply Kd.R_drew));exact HO_3.out,by repeat (first|(with_reducible first|exact HB.out|apply below_alloc|apply pw_below_drewN|apply below_drew1)|exact HB.out)⟩
  ·rw [if_neg c3] at H
   exact absurd H (by simp)
 ·rw [if_neg c2] at H
  exact absurd H (by simp)
/-! ### laws_toKern: function 55 -/
def laws_toKern.f (a0_0:Int) (a0_1:Int) (a0_2:Int):Option (Int×Int×Int):=some (a0_0,a0_1,a0_2)
set_option maxHeartbeats 8000000 in
set_option maxRecDepth 100000 in
theorem laws_toKern.calls (a0_0:Int) (a0_1:Int) (a0_2:Int) (r1:Int) (r2:Int) (r3:Int) (w:World) (h:laws_toKern.f a0_0 a0_1 a0_2=some (r1,r2,r3)) :
  Calls Try.prog 55 #[.agg #[.int .i64 a0_0,.int .i64 a0_1,.int .i64 a0_2]] w fun e w'=>e=.returned (.agg #[.int .i64 r1,.int .i64 r2,.int .i64 r3])∧Below w.heap.size w w':=by
 have hu88:=Try.underlying88
 have hu81:=Try.underlying81
 have HB:=Aside0.mk (Below.refl w.heap.size w)
 have H:(some (a0_0,a0_1,a0_2))=some (r1,r2,r3):=h
 clear h
 simp only [Option.some.injEq,Prod.mk.injEq] at H
 obtain ⟨rfl,rfl,rfl⟩:=H
 go_enter Try.func55,Try.ntmps55
 go_wp2_with (first|((with_reducible refine gate_dst (N:=1) rfl ?_);refine box_event ?hg (N:=1) ?hd (cs:=#[.int .i64 a0_0,.int .i64 a0_1,.int .i64 a0_2]) (t:=88) ?hr ?_;(case hd=>rfl);(case hg=>rfl);(case hr=>first|(go_simp;done)|(go_simp;rfl));intro gb115 hg w2 hbox hb;have n0_:=Aside0.mk (below_step (by repeat (first|(with_reducible first|exact HB.out|apply below_alloc|apply pw_below_drewN|apply below_drew1)|exact HB.out)) hb);have n1_:=Aside0.mk (hbox);have n2_:=Aside0.mk ((by rw [hg];exact (below_size (by repeat (first|(with_reducible first|exact HB.out|apply below_alloc|apply pw_below_drewN|apply below_drew1)|exact HB.out))):w.heap.size≤gb115));have n3_:=Aside0.mk ((by rw [hg];exact (below_size (by repeat (first|(with_reducible first|exact HB.out|apply below_alloc|apply pw_below_drewN|apply below_drew1)|exact HB.out))):w.heap.size≤gb115));clear HB;have HB:=n0_;have BK115:=n1_;have GW115:=n2_;have GE115:=n3_;clear n0_ n1_ n2_ n3_;clear hb hbox hg)|((with_reducible refine gate_dst (N:=2) rfl ?_);refine box_event ?hg (N:=2) ?hd (cs:=#[.int .i64 0,.int .i64 0,.int .i64 0]) (t:=81) ?hr ?_;(case hd=>rfl);(case hg=>rfl);(case hr=>first|(go_simp;done)|(go_simp;rfl));intro gb116 hg w3 hbox hb;have n0_:=Aside0.mk (blk_below (g:=gb115) (o:=.cells #[.int .i64 a0_0,.int .i64 a0_1,.int .i64 a0_2] 88 (0,0)) (by (with_reducible repeat (first|refine blk_drewN ?_ _|refine blk_drew ?_|refine blk_alloc ?_ _));exact BK115.out) hb);have n1_:=Aside0.mk (below_step (by repeat (first|(with_reducible first|exact HB.out|apply below_alloc|apply pw_below_drewN|apply below_drew1|refine below_set ?_ GE115.out)|exact HB.out)) hb);have n2_:=Aside0.mk (hbox);have n3_:=Aside0.mk ((by rw [hg];exact (below_size (by repeat (first|(with_reducible first|exact HB.out|apply below_alloc|apply pw_below_drewN|apply below_drew1|refine below_set ?_ GE115.out)|exact HB.out))):w.heap.size≤gb116));have n4_:=Aside0.mk ((by rw [hg];exact (below_size (by repeat (first|(with_reducible first|exact HB.out|apply below_alloc|apply pw_below_drewN|apply below_drew1|refine below_set ?_ GE115.out)|exact HB.out))):w.heap.size≤gb116));have n5_:=Aside0.mk ((by rw [hg];exact Nat.ne_of_lt (blk_lt (g:=gb115) (o:=.cells #[.int .i64 a0_0,.int .i64 a0_1,.int .i64 a0_2] 88 (0,0)) (by (with_reducible repeat (first|refine blk_drewN ?_ _|refine blk_drew ?_|refine blk_alloc ?_ _));exact BK115.out)):gb115≠gb116));have n6_:=Aside0.mk ((by rw [hg];exact Nat.ne_of_gt (blk_lt (g:=gb115) (o:=.cells #[.int .i64 a0_0,.int .i64 a0_1,.int .i64 a0_2] 88 (0,0)) (by (with_reducible repeat (first|refine blk_drewN ?_ _|refine blk_drew ?_|refine blk_alloc ?_ _));exact BK115.out)):gb116≠gb115));clear BK115;clear HB;have BK115:=n0_;have HB:=n1_;have BK116:=n2_;have GW116:=n3_;have GE116:=n4_;have NB115_116:=n5_;have NB116_115:=n6_;clear n0_ n1_ n2_ n3_ n4_ n5_ n6_;clear hb hbox hg)|((with_reducible refine gate_dst (N:=3) rfl ?_);refine box_event ?hg (N:=3) ?hd (cs:=#[.int .i64 0,.int .i64 0,.int .i64 0]) (t:=81) ?hr ?_;(case hd=>rfl);(case hg=>rfl);(case hr=>first|(go_simp;done)|(go_simp;rfl));intro gb117 hg w4 hbox hb;have n0_:=Aside0.mk (blk_below (g:=gb115) (o:=.cells #[.int .i64 a0_0,.int .i64 a0_1,.int .i64 a0_2] 88 (0,0)) (by (with_reducible repeat (first|refine blk_drewN ?_ _|refine blk_drew ?_|refine blk_alloc ?_ _));exact BK115.out) hb);have n1_:=Aside0.mk (blk_below (g:=gb116) (o:=.cells #[.int .i64 0,.int .i64 0,.int .i64 0] 81 (0,0)) (by (with_reducible repeat (first|refine blk_drewN ?_ _|refine blk_drew ?_|refine blk_alloc ?_ _));exact BK116.out) hb);have n2_:=Aside0.mk (below_step (by repeat (first|(with_reducible first|exact HB.out|apply below_alloc|apply pw_below_drewN|apply below_drew1|refine below_set ?_ GE115.out|refine below_set ?_ GE116.out)|exact HB.out)) hb);have n3_:=Aside0.mk (hbox);have n4_:=Aside0.mk ((by rw [hg];exact (below_size (by repeat (first|(with_reducible first|exact HB.out|apply below_alloc|apply pw_below_drewN|apply below_drew1|refine below_set ?_ GE115.out|refine below_set ?_ GE116.out)|exact HB.out))):w.heap.size≤gb117));have n5_:=Aside0.mk ((by rw [hg];exact (below_size (by repeat (first|(with_reducible first|exact HB.out|apply below_alloc|apply pw_below_drewN|apply below_drew1|refine below_set ?_ GE115.out|refine below_set ?_ GE116.out)|exact HB.out))):w.heap.size≤gb117));have n6_:=Aside0.mk ((by rw [hg];exact Nat.ne_of_lt (blk_lt (g:=gb115) (o:=.cells #[.int .i64 a0_0,.int .i64 a0_1,.int .i64 a0_2] 88 (0,0)) (by (with_reducible repeat (first|refine blk_drewN ?_ _|refine blk_drew ?_|refine blk_alloc ?_ _));exact BK115.out)):gb115≠gb117));have n7_:=Aside0.mk ((by rw [hg];exact Nat.ne_of_gt (blk_lt (g:=gb115) (o:=.cells #[.int .i64 a0_0,.int .i64 a0_1,.int .i64 a0_2] 88 (0,0)) (by (with_reducible repeat (first|refine blk_drewN ?_ _|refine blk_drew ?_|refine blk_alloc ?_ _));exact BK115.out)):gb117≠gb115));have n8_:=Aside0.mk ((by rw [hg];exact Nat.ne_of_lt (blk_lt (g:=gb116) (o:=.cells #[.int .i64 0,.int .i64 0,.int .i64 0] 81 (0,0)) (by (with_reducible repeat (first|refine blk_drewN ?_ _|refine blk_drew ?_|refine blk_alloc ?_ _));exact BK116.out)):gb116≠gb117));have n9_:=Aside0.mk ((by rw [hg];exact Nat.ne_of_gt (blk_lt (g:=gb116) (o:=.cells #[.int .i64 0,.int .i64 0,.int .i64 0] 81 (0,0)) (by (with_reducible repeat (first|refine blk_drewN ?_ _|refine blk_drew ?_|refine blk_alloc ?_ _));exact BK116.out)):gb117≠gb116));clear BK115;clear BK116;clear HB;have BK115:=n0_;have BK116:=n1_;have HB:=n2_;have BK117:=n3_;have GW117:=n4_;have GE117:=n5_;have NB115_117:=n6_;have NB117_115:=n7_;have NB116_117:=n8_;have NB117_116:=n9_;clear n0_ n1_ n2_ n3_ n4_ n5_ n6_ n7_ n8_ n9_;clear hb hbox hg;have hnb5:=NB115_116.out;have hnc5:=NB116_115.out;have hnb6:=NB115_117.out;have hnc6:=NB117_115.out;have hcz7_0:w4.cell? ⟨gb115,0,none⟩=some (.int .i64 a0_0):=(blk_cell BK115.out 0).trans rfl;have hcz7_1:w4.cell? ⟨gb115,1,none⟩=some (.int .i64 a0_1):=(blk_cell BK115.out 1).trans rfl;have hcz7_2:w4.cell? ⟨gb115,2,none⟩=some (.int .i64 a0_2):=(blk_cell BK115.out 2).trans rfl;have hfz7_0:=blk_frozen BK115.out 0;have hfz7_1:=blk_frozen BK115.out 1;have hfz7_2:=blk_frozen BK115.out 2;have hnb8:=NB117_116.out;have hnc8:=NB116_117.out;have hcz9_0:w4.cell? ⟨gb117,0,none⟩=some (.int .i64 0):=(blk_cell BK117.out 0).trans rfl;have hcz9_1:w4.cell? ⟨gb117,1,none⟩=some (.int .i64 0):=(blk_cell BK117.out 1).trans rfl;have hcz9_2:w4.cell? ⟨gb117,2,none⟩=some (.int .i64 0):=(blk_cell BK117.out 2).trans rfl;have hfz9_0:=blk_frozen BK117.out 0;have hfz9_1:=blk_frozen BK117.out 1;have hfz9_2:=blk_frozen BK117.out 2;have hcz10_0:w4.cell? ⟨gb116,0,none⟩=some (.int .i64 0):=(blk_cell BK116.out 0).trans rfl;have hcz10_1:w4.cell? ⟨gb116,1,none⟩=some (.int .i64 0):=(blk_cell BK116.out 1).trans rfl;have hcz10_2:w4.cell? ⟨gb116,2,none⟩=some (.int .i64 0):=(blk_cell BK116.out 2).trans rfl;have hfz10_0:=blk_frozen BK116.out 0;have hfz10_1:=blk_frozen BK116.out 1;have hfz10_2:=blk_frozen BK116.out 2))
 refine bodyPost_ret (results_cell_row rfl _ _ gb116 81 #[.int .i64 a0_0,.int .i64 a0_1,.int .i64 a0_2] (0,0) _ rfl (by (with_reducible repeat (first|refine blk_drewN ?_ _|refine blk_drew ?_|refine blk_alloc ?_ _));refine blk_put (cs:=#[.int .i64 a0_0,.int .i64 a0_1,.int .i64 0]) ?_ 2 _ rfl;(with_reducible repeat (first|refine blk_drewN ?_ _|refine blk_drew ?_|refine blk_alloc ?_ _));refine blk_put (cs:=#[.int .i64 a0_0,.int .i64 0,.int .i64 0]) ?_ 1 _ rfl;(with_reducible repeat (first|refine blk_drewN ?_ _|refine blk_drew ?_|refine blk_alloc ?_ _));refine blk_put (cs:=#[.int .i64 0,.int .i64 0,.int .i64 0]) ?_ 0 _ rfl;(with_reducible repeat (first|refine blk_drewN ?_ _|refine blk_drew ?_|refine blk_alloc ?_ _));refine blk_far ?_ NB116_117.out _;(with_reducible repeat (first|refine blk_drewN ?_ _|refine blk_drew ?_|refine blk_alloc ?_ _));refine blk_far ?_ NB116_117.out _;(with_reducible repeat (first|refine blk_drewN ?_ _|refine blk_drew ?_|refine blk_alloc ?_ _));refine blk_far ?_ NB116_117.out _;(with_reducible repeat (first|refine blk_drewN ?_ _|refine blk_drew ?_|refine blk_alloc ?_ _));exact BK116.out) Try.underlying81 rfl (by kernel_rfl)) rfl ?_
 exact ⟨by first|rfl|(simp [errW_none,errW_some]<;>rfl)|(simp [*,errW_none,errW_some]<;>rfl),by repeat (first|(with_reducible first|exact HB.out|apply below_alloc|apply pw_below_drewN|apply below_drew1|refine below_set ?_ GE115.out|refine below_set ?_ GE116.out|refine below_set ?_ GE117.out)|exact HB.out)⟩
/-! ### laws_toKernS: function 29 -/
def laws_toKernS.l0:Nat→List (S88)→List (S81)→Int→Option ((List (S81)))
 |0,_,_,_=>none
 |k+1,x0,x3,x4=>if x4<(x0.length:Int) then (if 0≤x4 then ((laws_toKern.f ((rd_T88 x0 x4).f0) ((rd_T88 x0 x4).f1) ((rd_T88 x0 x4).f2)).bind fun bt122=>(if x4<(x3.length:Int) then (laws_toKernS.l0 k x0 (x3.set (x4:Int).toNat (⟨bt122.1,bt122.2.1,bt122.2.2⟩:S81)) (wrap64 (x4+1))) else (none))) else (none)) else (some x3)
def laws_toKernS.f (k:Nat) (l0:List (S88)):Option ((List (S81))):=if 0≤(l0.length:Int) then (if ((l0.length:Int):Int).toNat≤11728124029610 then (laws_toKernS.l0 k l0 (List.replicate ((l0.length:Int):Int).toNat z81) 0) else (none)) else (none)
theorem laws_toKernS.mono_l:∀ k,(∀ y0 y1 y2,LeO (laws_toKernS.l0 k y0 y1 y2) (laws_toKernS.l0 (k+1) y0 y1 y2))
 |0=>fun _ _ _ r h=>by simp [laws_toKernS.l0] at h
 |k+1=>by
  have ih0:=laws_toKernS.mono_l k
  ·intro y0 y1 y2
   unfold laws_toKernS.l0
   repeat' first
   |(with_reducible exact ih0 _ _ _)
   |(with_reducible exact LeO.refl _)
   |(with_reducible exact LeO.none _)
   |(with_reducible refine LeO.ite ?_ ?_)
   |(with_reducible refine LeO.bind ?_ (fun _=>?_))
   |exact ih0 _ _ _
   |exact LeO.none _
   |refine LeO.ite ?_ ?_
   |refine LeO.bind ?_ (fun _=>?_)
theorem laws_toKernS.mono:∀ a0 k,LeO (laws_toKernS.f k a0) (laws_toKernS.f (k+1) a0):=by
 intro a0 k
 have ih0:=laws_toKernS.mono_l k
 unfold laws_toKernS.f
 repeat' first
   |(with_reducible exact ih0 _ _ _)
   |(with_reducible exact LeO.refl _)
   |(with_reducible exact LeO.none _)
   |(with_reducible refine LeO.ite ?_ ?_)
   |(with_reducible refine LeO.bind ?_ (fun _=>?_))
   |exact ih0 _ _ _
   |exact LeO.none _
   |refine LeO.ite ?_ ?_
   |refine LeO.bind ?_ (fun _=>?_)
set_option maxHeartbeats 8000000 in
set_option maxRecDepth 100000 in
theorem laws_toKernS.calls (k:Nat) (A0:Option Addr) (c0:Nat) (l0:List (S88)) (r:List (S81)) (w:World) (hr0:Kd.C k88 w A0 l0.length l0) (hc0:l0.length≤c0) (h:laws_toKernS.f k l0=some r) :
  Calls Try.prog 29 #[.slice A0 l0.length c0] w fun e w'=>∃ v0_:Value,e=.returned (v0_)∧Kd.R k81 81 w' w.heap.size (fun _=>True) v0_ r∧Below w.heap.size w w':=by
 have hu88:=Try.underlying88
 have hu81:=Try.underlying81
 have HR0:=Aside0.mk hr0
 have HC0:=Aside0.mk hc0
 clear hr0 hc0
 have HB:=Aside0.mk (Below.refl w.heap.size w)
 have H:(if 0≤(l0.length:Int) then (if ((l0.length:Int):Int).toNat≤11728124029610 then (laws_toKernS.l0 k l0 (List.replicate ((l0.length:Int):Int).toNat z81) 0) else (none)) else (none))=some r:=h
 clear h
 by_cases c2:0≤(l0.length:Int)
 ·rw [if_pos c2] at H
  have c2b0:=eq_true c2
  have c2b1:decide (0≤(l0.length:Int))=true:=decide_eq_true c2
  clear c2
  by_cases c3:((l0.length:Int):Int).toNat≤11728124029610
  ·rw [if_pos c3] at H
   have c3b0:=eq_true c3
   have c3b1:decide (((l0.length:Int):Int).toNat≤11728124029610)=true:=decide_eq_true c3
   clear c3
   obtain ⟨y118,hy118⟩:∃ y_:List (S81),y_=(List.replicate ((l0.length:Int):Int).toNat z81):=⟨_,rfl⟩
   replace H:(laws_toKernS.l0 k l0 y118 0)=some r:=by first|(rw [hy118];with_reducible exact H)|(have H2_:=(Option.bind_some _ _).symm.trans H;rw [hy118];with_reducible exact H2_)|(have H2_:=(Option.bind_some _ _).symm.trans H;with_reducible exact H2_)|with_reducible exact H|(rw [hy118];exact H)|exact H
   have Ny118:=Aside0.mk hy118
   clear hy118
   have H':=Aside0.mk H
   clear H
   go_enter Try.func29,Try.ntmps29
   go_wp2_with (first|((with_reducible refine gate_dst (N:=7) rfl ?_);refine Kd.R_make k81 _ 81 rfl (N:=7) rfl 31 _ _ rfl (l0.length:Int) rfl rfl Try.underlying31 (.agg #[(.int .i64 0),(.int .i64 0),(.int .i64 0)]) 24 info81 rfl (by decide) (by omega) z81 (ok:=fun _=>True) (okp:=fun _=>True) (k81_mkM _ _ _ z81) (fun _ hk=>hk) trivial (of_decide_eq_true (by first|(with_reducible assumption)|assumption)) (Nat.le_trans (Nat.mul_le_mul_right _ (of_decide_eq_true (by first|(with_reducible assumption)|assumption):(l0.length:Int).toNat≤11728124029610)) (by omega)) (Below.refl _ _) (Nat.le_refl _) ?_;intro v119 w4 ho5 hb hg_ hnew_;clear hg_ hnew_;(first|rw [← Ny118.out] at ho5|(simp only [Int.reduceToNat] at ho5;rw [← Ny118.out] at ho5));have n0_:=Aside0.mk (Kd.R_lower ho5 (below_size (by repeat (first|(with_reducible first|exact HB.out|apply below_alloc|apply pw_below_drewN|apply below_drew1)|exact HB.out))));have n1_:=Aside0.mk (below_step (by repeat (first|(with_reducible first|exact HB.out|apply below_alloc|apply pw_below_drewN|apply below_drew1)|exact HB.out)) hb);clear HB;have HO120:=n0_;have HB:=n1_;clear n0_ n1_;clear hb ho5))
   go_loopg [4] k (fun kq v4 w'=>∃ (x3_1:List (S81)) (x4_1:Int),v4=.int .i64 x4_1∧Aside0 (laws_toKernS.l0 kq l0 x3_1 x4_1=some r)∧Aside0 (kq≤k)∧Aside0 (Kd.R k81 81 w' w.heap.size (fun _=>True) v119 x3_1)∧Aside0 (Below w.heap.size w w'))
   case atStart=>exact ⟨(y118),(0),(by first|rfl|(simp;done)|(simp [*];done)),H',⟨Nat.le_refl _⟩,⟨by (with_reducible repeat (first|apply Kd.R_alloc|apply Kd.R_drewN|apply Kd.R_drew));exact HO120.out⟩,⟨by repeat (first|(with_reducible first|exact HB.out|apply below_alloc|apply pw_below_drewN|apply below_drew1)|exact HB.out)⟩⟩
   case round=>
    clear H'
    try clear c2
    try clear c2b0
    try clear c2b1
    try clear p2
    try clear c3
    try clear c3b0
    try clear c3b1
    obtain ⟨x3_1,x4_1,rfl,HA,HK1,HO_3,HB⟩:=hrel
    cases gk with
    |zero=>exact absurd HA.out (by simp [laws_toKernS.l0])
    |succ k1=>
     have H:=HA.out
     clear HA
     simp only [laws_toKernS.l0] at H
     by_cases c6:x4_1<(l0.length:Int)
     ·rw [if_pos c6] at H
      have c6b0:decide (x4_1<(l0.length:Int))=true:=decide_eq_true c6
      clear c6
      by_cases c7:0≤x4_1
      ·rw [if_pos c7] at H
       have c7b0:decide (0≤x4_1)=true:=decide_eq_true c7
       clear c7
       replace H:=Option.bind_eq_some_iff.mp H
       obtain ⟨⟨t122,t123,t124⟩,A80,H⟩:=H
       replace H:(if x4_1<(x3_1.length:Int) then (laws_toKernS.l0 k1 l0 (x3_1.set (x4_1:Int).toNat (⟨t122,t123,t124⟩:S81)) (wrap64 (x4_1+1))) else (none))=some r:=H
       have A8:=Aside0.mk A80
       clear A80
       by_cases c9:x4_1<(x3_1.length:Int)
       ·rw [if_pos c9] at H
        have c9b0:decide (x4_1<(x3_1.length:Int))=true:=decide_eq_true c9
        clear c9
        obtain ⟨y125,hy125⟩:∃ y_:List (S81),y_=(x3_1.set (x4_1:Int).toNat (⟨t122,t123,t124⟩:S81)):=⟨_,rfl⟩
        replace H:(laws_toKernS.l0 k1 l0 y125 (wrap64 (x4_1+1)))=some r:=by first|(rw [hy125];with_reducible exact H)|(have H2_:=(Option.bind_some _ _).symm.trans H;rw [hy125];with_reducible exact H2_)|(have H2_:=(Option.bind_some _ _).symm.trans H;with_reducible exact H2_)|with_reducible exact H|(rw [hy125];exact H)|exact H
        have Ny125:=Aside0.mk hy125
        clear hy125
        have H':=Aside0.mk H
        clear H
        have p121:0≤(x4_1:Int):=of_decide_eq_true (by first|(with_reducible assumption)|assumption)
        have q121:x4_1<(l0.length:Int):=of_decide_eq_true (by first|(with_reducible assumption)|assumption)
        obtain ⟨ad121,e121,hx121_0,hx121_1,hx121_2⟩:=at_T88 HR0.out x4_1 p121 q121
        cases e121
        replace hx121_0:=(HB.out.cell (World.block_lt_of_cell? w _ hx121_0)).trans hx121_0
        replace hx121_1:=(HB.out.cell (World.block_lt_of_cell? w _ hx121_1)).trans hx121_1
        replace hx121_2:=(HB.out.cell (World.block_lt_of_cell? w _ hx121_2)).trans hx121_2
        replace p121:=eq_true p121
        replace q121:=eq_true q121
        go_wp2_with (first|((with_reducible refine gate_callee (f:=55) rfl ?_);refine goesL_ (some 20) rfl rfl Try.func55 (by kernel_rfl) rfl #[.agg #[.int .i64 ((rd_T88 l0 x4_1).f0),.int .i64 ((rd_T88 l0 x4_1).f1),.int .i64 ((rd_T88 l0 x4_1).f2)]] rfl (by (try simp only [List.map_toArray,List.map_cons,List.map_nil]);first|done|rfl|(simp only [List.length_drop,List.length_take];rfl)) ?_;(with_reducible refine (laws_toKern.calls ((rd_T88 l0 x4_1).f0) ((rd_T88 l0 x4_1).f1) ((rd_T88 l0 x4_1).f2) t122 t123 t124 _ A8.out).mono ?_);rintro e w11 ⟨rfl,hb⟩;refine ⟨_,rfl,?_⟩;have n0_:=Aside0.mk (Kd.R_below (by (with_reducible repeat (first|apply Kd.R_alloc|apply Kd.R_drewN|apply Kd.R_drew));exact HO_3.out) hb);have n1_:=Aside0.mk (below_step (by repeat (first|(with_reducible first|exact HB.out|apply below_alloc|apply pw_below_drewN|apply below_drew1)|exact HB.out)) hb);clear HO_3;clear HB;have HO_3:=n0_;have HB:=n1_;clear n0_ n1_;(try clear hb);(try clear hb2);(try clear hk);(try clear hi);have p10:0≤(x4_1:Int):=of_decide_eq_true (by first|(with_reducible assumption)|assumption);have q10:(x4_1:Int)<((x3_1.length:Int):Int):=of_decide_eq_true (by first|(with_reducible assumption)|assumption);obtain ⟨go10,co10,eo10,gb10,gl10,cl10,HG10⟩:=Kd.R_form HO_3.out (by omega);(first|cases eo10|(injection eo10 with ea_ en_ ec_;(first|subst ea_|(injection ea_ with ea_;subst ea_));subst ec_;clear en_));have GB10:=Aside0.mk gb10;have GG10:=Aside0.mk HG10;clear gb10 gl10 HG10;obtain ⟨ce10,hcl10,hM10,hcc10,hfr10⟩:=Kd.R_elem HO_3.out z81 (x4_1:Int) p10 q10;obtain rfl:=k81_openM hM10;have hx10_0:w11.cell? ⟨go10,(x4_1:Int).toNat*3,none⟩=some (.int .i64 ((rd_T81 x3_1 x4_1).f0)):=hcc10 0 _ rfl;have hx10_1:w11.cell? ⟨go10,(x4_1:Int).toNat*3+1,none⟩=some (.int .i64 ((rd_T81 x3_1 x4_1).f1)):=hcc10 1 _ rfl;have hx10_2:w11.cell? ⟨go10,(x4_1:Int).toNat*3+2,none⟩=some (.int .i64 ((rd_T81 x3_1 x4_1).f2)):=hcc10 2 _ rfl;have hf10_0:w11.frozen? ⟨go10,(x4_1:Int).toNat*3,none⟩=false:=hfr10 0;have hf10_1:w11.frozen? ⟨go10,(x4_1:Int).toNat*3+1,none⟩=false:=hfr10 1;have hf10_2:w11.frozen? ⟨go10,(x4_1:Int).toNat*3+2,none⟩=false:=hfr10 2;clear hcl10 hcc10 hfr10 hM10;replace p10:=eq_true p10;replace q10:=eq_true q10;have HX12:=Aside0.mk (show Kd.R k81 81 w11 w.heap.size (fun _=>True) (.slice (some ⟨go10,0,none⟩) x3_1.length co10) x3_1 from (by (with_reducible repeat (first|apply Kd.R_alloc|apply Kd.R_drewN|apply Kd.R_drew));exact HO_3.out));obtain ⟨ce12,hcl12,hM12,hcc12,hfr12⟩:=Kd.R_elem HX12.out z81 (x4_1:Int) (of_decide_eq_true (by first|(with_reducible assumption)|assumption)) (by have h_:(x4_1:Int)<((x3_1.length:Int):Int):=of_decide_eq_true (by first|(with_reducible assumption)|assumption);first|exact h_|(have e_:=(Kd.R_reads' HO_3.out).1;omega)|simpa using h_);obtain rfl:=k81_openM hM12;have HP12:=Kd.R_seg HX12.out (x4_1:Int) (of_decide_eq_true (by first|(with_reducible assumption)|assumption)) (by have h_:(x4_1:Int)<((x3_1.length:Int):Int):=of_decide_eq_true (by first|(with_reducible assumption)|assumption);first|exact h_|(have e_:=(Kd.R_reads' HO_3.out).1;omega)|simpa using h_) (seg:=[.int .i64 t122,.int .i64 t123,.int .i64 t124]) (j:=0) hcl12 hcc12 (show 3≤3 from by decide) (x':=(⟨t122,t123,t124⟩:S81)) (k81_mkM _ _ _ (⟨t122,t123,t124⟩:S81)) (fun _ hk=>hk);have hx12_0:=hcc12 0 _ rfl;(try simp only [show (k81).sz=3 from rfl,Nat.mul_one,Nat.add_zero] at hx12_0);have hf12_0:=hfr12 0;(try simp only [show (k81).sz=3 from rfl,Nat.mul_one,Nat.add_zero] at hf12_0);have hx12_1:=hcc12 1 _ rfl;(try simp only [show (k81).sz=3 from rfl,Nat.mul_one,Nat.add_zero] at hx12_1);have hf12_1:=hfr12 1;(try simp only [show (k81).sz=3 from rfl,Nat.mul_one,Nat.add_zero] at hf12_1);have hx12_2:=hcc12 2 _ rfl;(try simp only [show (k81).sz=3 from rfl,Nat.mul_one,Nat.add_zero] at hx12_2);have hf12_2:=hfr12 2;(try simp only [show (k81).sz=3 from rfl,Nat.mul_one,Nat.add_zero] at hf12_2);clear hcl12 hcc12 hfr12 hM12)|((with_reducible refine gate_store (t:=81) (p:=21) rfl ?_);refine store_event (t:=81) (p:=21) (v:=?vo_w13) (w1:=(((w11.setCell ⟨go10,(x4_1:Int).toNat*3,none⟩ (.int .i64 t122)).setCell ⟨go10,(x4_1:Int).toNat*3+1,none⟩ (.int .i64 t123)).setCell ⟨go10,(x4_1:Int).toNat*3+2,none⟩ (.int .i64 t124))) ?hg ?ho ?hn ?hr ?_;(case ho=>rfl);(case hg=>rfl);(case hn=>rfl);(case hr=>first|(go_simp;done)|(go_simp;rfl));intro w13 hw;have hg:w11.grownBy w13 (some go10):=(by rw [hw];exact HP12.2);have hp_:Kd.R k81 81 w13 w.heap.size (fun _=>True) (.slice (some ⟨go10,0,none⟩) x3_1.length co10) y125:=(by rw [hw,Ny125.out];exact HP12.1);clear HP12;have n0_:=Aside0.mk (hp_);have n1_:=Aside0.mk ((by rw [hw];exact below_set (below_set (below_set (HB.out) GB10.out) GB10.out) GB10.out:Below w.heap.size w w13));clear HO_3;clear HB;have HO_3:=n0_;have HB:=n1_;clear n0_ n1_;clear hg hw hp_))
        go_roundg k1
        case measure=>have:=HK1.out;omega
        case rel=>exact ⟨(y125),(wrap64 (x4_1+1)),(by first|rfl|(simp;done)|(simp [*];done)),H',⟨by have:=HK1.out;omega⟩,⟨by (with_reducible repeat (first|apply Kd.R_alloc|apply Kd.R_drewN|apply Kd.R_drew));exact HO_3.out⟩,⟨by repeat (first|(with_reducible first|exact HB.out|apply below_alloc|apply pw_below_drewN|apply below_drew1)|exact HB.out)⟩⟩
       ·rw [if_neg c9] at H
        exact absurd H (by simp)
      ·rw [if_neg c7] at H
       exact absurd H (by simp)
     ·rw [if_neg c6] at H
      have c6b0:decide (x4_1<(l0.length:Int))=false:=decide_eq_false c6
      clear c6
      obtain rfl:=Option.some.inj H
      go_wp2
      go_ret
      exact ⟨_,by first|rfl|(simp [errW_none,errW_some]<;>rfl)|(simp [*,errW_none,errW_some]<;>rfl),by (with_reducible repeat (first|apply Kd.R_alloc|apply Kd.R_drewN|apply Kd.R_drew));exact HO_3.out,by repeat (first|(with_reducible first|exact HB.out|apply below_alloc|apply pw_below_drewN|apply below_drew1)|exact HB.out)⟩
  ·rw [if_neg c3] at H
   exact absurd H (by simp)
 ·rw [if_neg c2] at H
  exact absurd H (by simp)
/-! ### laws_toLig: function 56 -/
def laws_toLig.f (a0_0:Int) (a0_1:Int) (a0_2:Int):Option (Int×Int×Int):=some (a0_0,a0_1,a0_2)
set_option maxHeartbeats 8000000 in
set_option maxRecDepth 100000 in
theorem laws_toLig.calls (a0_0:Int) (a0_1:Int) (a0_2:Int) (r1:Int) (r2:Int) (r3:Int) (w:World) (h:laws_toLig.f a0_0 a0_1 a0_2=some (r1,r2,r3)) :
  Calls Try.prog 56 #[.agg #[.int .i64 a0_0,.int .i64 a0_1,.int .i64 a0_2]] w fun e w'=>e=.returned (.agg #[.int .i64 r1,.int .i64 r2,.int .i64 r3])∧Below w.heap.size w w':=by
 have hu90:=Try.underlying90
 have hu84:=Try.underlying84
 have HB:=Aside0.mk (Below.refl w.heap.size w)
 have H:(some (a0_0,a0_1,a0_2))=some (r1,r2,r3):=h
 clear h
 simp only [Option.some.injEq,Prod.mk.injEq] at H
 obtain ⟨rfl,rfl,rfl⟩:=H
 go_enter Try.func56,Try.ntmps56
 go_wp2_with (first|((with_reducible refine gate_dst (N:=1) rfl ?_);refine box_event ?hg (N:=1) ?hd (cs:=#[.int .i64 a0_0,.int .i64 a0_1,.int .i64 a0_2]) (t:=90) ?hr ?_;(case hd=>rfl);(case hg=>rfl);(case hr=>first|(go_simp;done)|(go_simp;rfl));intro gb126 hg w2 hbox hb;have n0_:=Aside0.mk (below_step (by repeat (first|(with_reducible first|exact HB.out|apply below_alloc|apply pw_below_drewN|apply below_drew1)|exact HB.out)) hb);have n1_:=Aside0.mk (hbox);have n2_:=Aside0.mk ((by rw [hg];exact (below_size (by repeat (first|(with_reducible first|exact HB.out|apply below_alloc|apply pw_below_drewN|apply below_drew1)|exact HB.out))):w.heap.size≤gb126));have n3_:=Aside0.mk ((by rw [hg];exact (below_size (by repeat (first|(with_reducible first|exact HB.out|apply below_alloc|apply pw_below_drewN|apply below_drew1)|exact HB.out))):w.heap.size≤gb126));clear HB;have HB:=n0_;have BK126:=n1_;have GW126:=n2_;have GE126:=n3_;clear n0_ n1_ n2_ n3_;clear hb hbox hg)|((with_reducible refine gate_dst (N:=2) rfl ?_);refine box_event ?hg (N:=2) ?hd (cs:=#[.int .i64 0,.int .i64 0,.int .i64 0]) (t:=84) ?hr ?_;(case hd=>rfl);(case hg=>rfl);(case hr=>first|(go_simp;done)|(go_simp;rfl));intro gb127 hg w3 hbox hb;have n0_:=Aside0.mk (blk_below (g:=gb126) (o:=.cells #[.int .i64 a0_0,.int .i64 a0_1,.int .i64 a0_2] 90 (0,0)) (by (with_reducible repeat (first|refine blk_drewN ?_ _|refine blk_drew ?_|refine blk_alloc ?_ _));exact BK126.out) hb);have n1_:=Aside0.mk (below_step (by repeat (first|(with_reducible first|exact HB.out|apply below_alloc|apply pw_below_drewN|apply below_drew1|refine below_set ?_ GE126.out)|exact HB.out)) hb);have n2_:=Aside0.mk (hbox);have n3_:=Aside0.mk ((by rw [hg];exact (below_size (by repeat (first|(with_reducible first|exact HB.out|apply below_alloc|apply pw_below_drewN|apply below_drew1|refine below_set ?_ GE126.out)|exact HB.out))):w.heap.size≤gb127));have n4_:=Aside0.mk ((by rw [hg];exact (below_size (by repeat (first|(with_reducible first|exact HB.out|apply below_alloc|apply pw_below_drewN|apply below_drew1|refine below_set ?_ GE126.out)|exact HB.out))):w.heap.size≤gb127));have n5_:=Aside0.mk ((by rw [hg];exact Nat.ne_of_lt (blk_lt (g:=gb126) (o:=.cells #[.int .i64 a0_0,.int .i64 a0_1,.int .i64 a0_2] 90 (0,0)) (by (with_reducible repeat (first|refine blk_drewN ?_ _|refine blk_drew ?_|refine blk_alloc ?_ _));exact BK126.out)):gb126≠gb127));have n6_:=Aside0.mk ((by rw [hg];exact Nat.ne_of_gt (blk_lt (g:=gb126) (o:=.cells #[.int .i64 a0_0,.int .i64 a0_1,.int .i64 a0_2] 90 (0,0)) (by (with_reducible repeat (first|refine blk_drewN ?_ _|refine blk_drew ?_|refine blk_alloc ?_ _));exact BK126.out)):gb127≠gb126));clear BK126;clear HB;have BK126:=n0_;have HB:=n1_;have BK127:=n2_;have GW127:=n3_;have GE127:=n4_;have NB126_127:=n5_;have NB127_126:=n6_;clear n0_ n1_ n2_ n3_ n4_ n5_ n6_;clear hb hbox hg)|((with_reducible refine gate_dst (N:=3) rfl ?_);refine box_event ?hg (N:=3) ?hd (cs:=#[.int .i64 0,.int .i64 0,.int .i64 0]) (t:=84) ?hr ?_;(case hd=>rfl);(case hg=>rfl);(case hr=>first|(go_simp;done)|(go_simp;rfl));intro gb128 hg w4 hbox hb;have n0_:=Aside0.mk (blk_below (g:=gb126) (o:=.cells #[.int .i64 a0_0,.int .i64 a0_1,.int .i64 a0_2] 90 (0,0)) (by (with_reducible repeat (first|refine blk_drewN ?_ _|refine blk_drew ?_|refine blk_alloc ?_ _));exact BK126.out) hb);have n1_:=Aside0.mk (blk_below (g:=gb127) (o:=.cells #[.int .i64 0,.int .i64 0,.int .i64 0] 84 (0,0)) (by (with_reducible repeat (first|refine blk_drewN ?_ _|refine blk_drew ?_|refine blk_alloc ?_ _));exact BK127.out) hb);have n2_:=Aside0.mk (below_step (by repeat (first|(with_reducible first|exact HB.out|apply below_alloc|apply pw_below_drewN|apply below_drew1|refine below_set ?_ GE126.out|refine below_set ?_ GE127.out)|exact HB.out)) hb);have n3_:=Aside0.mk (hbox);have n4_:=Aside0.mk ((by rw [hg];exact (below_size (by repeat (first|(with_reducible first|exact HB.out|apply below_alloc|apply pw_below_drewN|apply below_drew1|refine below_set ?_ GE126.out|refine below_set ?_ GE127.out)|exact HB.out))):w.heap.size≤gb128));have n5_:=Aside0.mk ((by rw [hg];exact (below_size (by repeat (first|(with_reducible first|exact HB.out|apply below_alloc|apply pw_below_drewN|apply below_drew1|refine below_set ?_ GE126.out|refine below_set ?_ GE127.out)|exact HB.out))):w.heap.size≤gb128));have n6_:=Aside0.mk ((by rw [hg];exact Nat.ne_of_lt (blk_lt (g:=gb126) (o:=.cells #[.int .i64 a0_0,.int .i64 a0_1,.int .i64 a0_2] 90 (0,0)) (by (with_reducible repeat (first|refine blk_drewN ?_ _|refine blk_drew ?_|refine blk_alloc ?_ _));exact BK126.out)):gb126≠gb128));have n7_:=Aside0.mk ((by rw [hg];exact Nat.ne_of_gt (blk_lt (g:=gb126) (o:=.cells #[.int .i64 a0_0,.int .i64 a0_1,.int .i64 a0_2] 90 (0,0)) (by (with_reducible repeat (first|refine blk_drewN ?_ _|refine blk_drew ?_|refine blk_alloc ?_ _));exact BK126.out)):gb128≠gb126));have n8_:=Aside0.mk ((by rw [hg];exact Nat.ne_of_lt (blk_lt (g:=gb127) (o:=.cells #[.int .i64 0,.int .i64 0,.int .i64 0] 84 (0,0)) (by (with_reducible repeat (first|refine blk_drewN ?_ _|refine blk_drew ?_|refine blk_alloc ?_ _));exact BK127.out)):gb127≠gb128));have n9_:=Aside0.mk ((by rw [hg];exact Nat.ne_of_gt (blk_lt (g:=gb127) (o:=.cells #[.int .i64 0,.int .i64 0,.int .i64 0] 84 (0,0)) (by (with_reducible repeat (first|refine blk_drewN ?_ _|refine blk_drew ?_|refine blk_alloc ?_ _));exact BK127.out)):gb128≠gb127));clear BK126;clear BK127;clear HB;have BK126:=n0_;have BK127:=n1_;have HB:=n2_;have BK128:=n3_;have GW128:=n4_;have GE128:=n5_;have NB126_128:=n6_;have NB128_126:=n7_;have NB127_128:=n8_;have NB128_127:=n9_;clear n0_ n1_ n2_ n3_ n4_ n5_ n6_ n7_ n8_ n9_;clear hb hbox hg;have hnb5:=NB126_127.out;have hnc5:=NB127_126.out;have hnb6:=NB126_128.out;have hnc6:=NB128_126.out;have hcz7_0:w4.cell? ⟨gb126,0,none⟩=some (.int .i64 a0_0):=(blk_cell BK126.out 0).trans rfl;have hcz7_1:w4.cell? ⟨gb126,1,none⟩=some (.int .i64 a0_1):=(blk_cell BK126.out 1).trans rfl;have hcz7_2:w4.cell? ⟨gb126,2,none⟩=some (.int .i64 a0_2):=(blk_cell BK126.out 2).trans rfl;have hfz7_0:=blk_frozen BK126.out 0;have hfz7_1:=blk_frozen BK126.out 1;have hfz7_2:=blk_frozen BK126.out 2;have hnb8:=NB128_127.out;have hnc8:=NB127_128.out;have hcz9_0:w4.cell? ⟨gb128,0,none⟩=some (.int .i64 0):=(blk_cell BK128.out 0).trans rfl;have hcz9_1:w4.cell? ⟨gb128,1,none⟩=some (.int .i64 0):=(blk_cell BK128.out 1).trans rfl;have hcz9_2:w4.cell? ⟨gb128,2,none⟩=some (.int .i64 0):=(blk_cell BK128.out 2).trans rfl;have hfz9_0:=blk_frozen BK128.out 0;have hfz9_1:=blk_frozen BK128.out 1;have hfz9_2:=blk_frozen BK128.out 2;have hcz10_0:w4.cell? ⟨gb127,0,none⟩=some (.int .i64 0):=(blk_cell BK127.out 0).trans rfl;have hcz10_1:w4.cell? ⟨gb127,1,none⟩=some (.int .i64 0):=(blk_cell BK127.out 1).trans rfl;have hcz10_2:w4.cell? ⟨gb127,2,none⟩=some (.int .i64 0):=(blk_cell BK127.out 2).trans rfl;have hfz10_0:=blk_frozen BK127.out 0;have hfz10_1:=blk_frozen BK127.out 1;have hfz10_2:=blk_frozen BK127.out 2))
 refine bodyPost_ret (results_cell_row rfl _ _ gb127 84 #[.int .i64 a0_0,.int .i64 a0_1,.int .i64 a0_2] (0,0) _ rfl (by (with_reducible repeat (first|refine blk_drewN ?_ _|refine blk_drew ?_|refine blk_alloc ?_ _));refine blk_put (cs:=#[.int .i64 a0_0,.int .i64 a0_1,.int .i64 0]) ?_ 2 _ rfl;(with_reducible repeat (first|refine blk_drewN ?_ _|refine blk_drew ?_|refine blk_alloc ?_ _));refine blk_put (cs:=#[.int .i64 a0_0,.int .i64 0,.int .i64 0]) ?_ 1 _ rfl;(with_reducible repeat (first|refine blk_drewN ?_ _|refine blk_drew ?_|refine blk_alloc ?_ _));refine blk_put (cs:=#[.int .i64 0,.int .i64 0,.int .i64 0]) ?_ 0 _ rfl;(with_reducible repeat (first|refine blk_drewN ?_ _|refine blk_drew ?_|refine blk_alloc ?_ _));refine blk_far ?_ NB127_128.out _;(with_reducible repeat (first|refine blk_drewN ?_ _|refine blk_drew ?_|refine blk_alloc ?_ _));refine blk_far ?_ NB127_128.out _;(with_reducible repeat (first|refine blk_drewN ?_ _|refine blk_drew ?_|refine blk_alloc ?_ _));refine blk_far ?_ NB127_128.out _;(with_reducible repeat (first|refine blk_drewN ?_ _|refine blk_drew ?_|refine blk_alloc ?_ _));exact BK127.out) Try.underlying84 rfl (by kernel_rfl)) rfl ?_
 exact ⟨by first|rfl|(simp [errW_none,errW_some]<;>rfl)|(simp [*,errW_none,errW_some]<;>rfl),by repeat (first|(with_reducible first|exact HB.out|apply below_alloc|apply pw_below_drewN|apply below_drew1|refine below_set ?_ GE126.out|refine below_set ?_ GE127.out|refine below_set ?_ GE128.out)|exact HB.out)⟩
/-! ### laws_toLigS: function 30 -/
def laws_toLigS.l0:Nat→List (S90)→List (S84)→Int→Option ((List (S84)))
 |0,_,_,_=>none
 |k+1,x0,x3,x4=>if x4<(x0.length:Int) then (if 0≤x4 then ((laws_toLig.f ((rd_T90 x0 x4).f0) ((rd_T90 x0 x4).f1) ((rd_T90 x0 x4).f2)).bind fun bt133=>(if x4<(x3.length:Int) then (laws_toLigS.l0 k x0 (x3.set (x4:Int).toNat (⟨bt133.1,bt133.2.1,bt133.2.2⟩:S84)) (wrap64 (x4+1))) else (none))) else (none)) else (some x3)
def laws_toLigS.f (k:Nat) (l0:List (S90)):Option ((List (S84))):=if 0≤(l0.length:Int) then (if ((l0.length:Int):Int).toNat≤11728124029610 then (laws_toLigS.l0 k l0 (List.replicate ((l0.length:Int):Int).toNat z84) 0) else (none)) else (none)
theorem laws_toLigS.mono_l:∀ k,(∀ y0 y1 y2,LeO (laws_toLigS.l0 k y0 y1 y2) (laws_toLigS.l0 (k+1) y0 y1 y2))
 |0=>fun _ _ _ r h=>by simp [laws_toLigS.l0] at h
 |k+1=>by
  have ih0:=laws_toLigS.mono_l k
  ·intro y0 y1 y2
   unfold laws_toLigS.l0
   repeat' first
   |(with_reducible exact ih0 _ _ _)
   |(with_reducible exact LeO.refl _)
   |(with_reducible exact LeO.none _)
   |(with_reducible refine LeO.ite ?_ ?_)
   |(with_reducible refine LeO.bind ?_ (fun _=>?_))
   |exact ih0 _ _ _
   |exact LeO.none _
   |refine LeO.ite ?_ ?_
   |refine LeO.bind ?_ (fun _=>?_)
theorem laws_toLigS.mono:∀ a0 k,LeO (laws_toLigS.f k a0) (laws_toLigS.f (k+1) a0):=by
 intro a0 k
 have ih0:=laws_toLigS.mono_l k
 unfold laws_toLigS.f
 repeat' first
   |(with_reducible exact ih0 _ _ _)
   |(with_reducible exact LeO.refl _)
   |(with_reducible exact LeO.none _)
   |(with_reducible refine LeO.ite ?_ ?_)
   |(with_reducible refine LeO.bind ?_ (fun _=>?_))
   |exact ih0 _ _ _
   |exact LeO.none _
   |refine LeO.ite ?_ ?_
   |refine LeO.bind ?_ (fun _=>?_)
set_option maxHeartbeats 8000000 in
set_option maxRecDepth 100000 in
theorem laws_toLigS.calls (k:Nat) (A0:Option Addr) (c0:Nat) (l0:List (S90)) (r:List (S84)) (w:World) (hr0:Kd.C k90 w A0 l0.length l0) (hc0:l0.length≤c0) (h:laws_toLigS.f k l0=some r) :
  Calls Try.prog 30 #[.slice A0 l0.length c0] w fun e w'=>∃ v0_:Value,e=.returned (v0_)∧Kd.R k84 84 w' w.heap.size (fun _=>True) v0_ r∧Below w.heap.size w w':=by
 have hu90:=Try.underlying90
 have hu84:=Try.underlying84
 have HR0:=Aside0.mk hr0
 have HC0:=Aside0.mk hc0
 clear hr0 hc0
 have HB:=Aside0.mk (Below.refl w.heap.size w)
 have H:(if 0≤(l0.length:Int) then (if ((l0.length:Int):Int).toNat≤11728124029610 then (laws_toLigS.l0 k l0 (List.replicate ((l0.length:Int):Int).toNat z84) 0) else (none)) else (none))=some r:=h
 clear h
 by_cases c2:0≤(l0.length:Int)
 ·rw [if_pos c2] at H
  have c2b0:=eq_true c2
  have c2b1:decide (0≤(l0.length:Int))=true:=decide_eq_true c2
  clear c2
  by_cases c3:((l0.length:Int):Int).toNat≤11728124029610
  ·rw [if_pos c3] at H
   have c3b0:=eq_true c3
   have c3b1:decide (((l0.length:Int):Int).toNat≤11728124029610)=true:=decide_eq_true c3
   clear c3
   obtain ⟨y129,hy129⟩:∃ y_:List (S84),y_=(List.replicate ((l0.length:Int):Int).toNat z84):=⟨_,rfl⟩
   replace H:(laws_toLigS.l0 k l0 y129 0)=some r:=by first|(rw [hy129];with_reducible exact H)|(have H2_:=(Option.bind_some _ _).symm.trans H;rw [hy129];with_reducible exact H2_)|(have H2_:=(Option.bind_some _ _).symm.trans H;with_reducible exact H2_)|with_reducible exact H|(rw [hy129];exact H)|exact H
   have Ny129:=Aside0.mk hy129
   clear hy129
   have H':=Aside0.mk H
   clear H
   go_enter Try.func30,Try.ntmps30
   go_wp2_with (first|((with_reducible refine gate_dst (N:=7) rfl ?_);refine Kd.R_make k84 _ 84 rfl (N:=7) rfl 32 _ _ rfl (l0.length:Int) rfl rfl Try.underlying32 (.agg #[(.int .i64 0),(.int .i64 0),(.int .i64 0)]) 24 info84 rfl (by decide) (by omega) z84 (ok:=fun _=>True) (okp:=fun _=>True) (k84_mkM _ _ _ z84) (fun _ hk=>hk) trivial (of_decide_eq_true (by first|(with_reducible assumption)|assumption)) (Nat.le_trans (Nat.mul_le_mul_right _ (of_decide_eq_true (by first|(with_reducible assumption)|assumption):(l0.length:Int).toNat≤11728124029610)) (by omega)) (Below.refl _ _) (Nat.le_refl _) ?_;intro v130 w4 ho5 hb hg_ hnew_;clear hg_ hnew_;(first|rw [← Ny129.out] at ho5|(simp only [Int.reduceToNat] at ho5;rw [← Ny129.out] at ho5));have n0_:=Aside0.mk (Kd.R_lower ho5 (below_size (by repeat (first|(with_reducible first|exact HB.out|apply below_alloc|apply pw_below_drewN|apply below_drew1)|exact HB.out))));have n1_:=Aside0.mk (below_step (by repeat (first|(with_reducible first|exact HB.out|apply below_alloc|apply pw_below_drewN|apply below_drew1)|exact HB.out)) hb);clear HB;have HO131:=n0_;have HB:=n1_;clear n0_ n1_;clear hb ho5))
   go_loopg [4] k (fun kq v4 w'=>∃ (x3_1:List (S84)) (x4_1:Int),v4=.int .i64 x4_1∧Aside0 (laws_toLigS.l0 kq l0 x3_1 x4_1=some r)∧Aside0 (kq≤k)∧Aside0 (Kd.R k84 84 w' w.heap.size (fun _=>True) v130 x3_1)∧Aside0 (Below w.heap.size w w'))
   case atStart=>exact ⟨(y129),(0),(by first|rfl|(simp;done)|(simp [*];done)),H',⟨Nat.le_refl _⟩,⟨by (with_reducible repeat (first|apply Kd.R_alloc|apply Kd.R_drewN|apply Kd.R_drew));exact HO131.out⟩,⟨by repeat (first|(with_reducible first|exact HB.out|apply below_alloc|apply pw_below_drewN|apply below_drew1)|exact HB.out)⟩⟩
   case round=>
    clear H'
    try clear c2
    try clear c2b0
    try clear c2b1
    try clear p2
    try clear c3
    try clear c3b0
    try clear c3b1
    obtain ⟨x3_1,x4_1,rfl,HA,HK1,HO_3,HB⟩:=hrel
    cases gk with
    |zero=>exact absurd HA.out (by simp [laws_toLigS.l0])
    |succ k1=>
     have H:=HA.out
     clear HA
     simp only [laws_toLigS.l0] at H
     by_cases c6:x4_1<(l0.length:Int)
     ·rw [if_pos c6] at H
      have c6b0:decide (x4_1<(l0.length:Int))=true:=decide_eq_true c6
      clear c6
      by_cases c7:0≤x4_1
      ·rw [if_pos c7] at H
       have c7b0:decide (0≤x4_1)=true:=decide_eq_true c7
       clear c7
       replace H:=Option.bind_eq_some_iff.mp H
       obtain ⟨⟨t133,t134,t135⟩,A80,H⟩:=H
       replace H:(if x4_1<(x3_1.length:Int) then (laws_toLigS.l0 k1 l0 (x3_1.set (x4_1:Int).toNat (⟨t133,t134,t135⟩:S84)) (wrap64 (x4_1+1))) else (none))=some r:=H
       have A8:=Aside0.mk A80
       clear A80
       by_cases c9:x4_1<(x3_1.length:Int)
       ·rw [if_pos c9] at H
        have c9b0:decide (x4_1<(x3_1.length:Int))=true:=decide_eq_true c9
        clear c9
        obtain ⟨y136,hy136⟩:∃ y_:List (S84),y_=(x3_1.set (x4_1:Int).toNat (⟨t133,t134,t135⟩:S84)):=⟨_,rfl⟩
        replace H:(laws_toLigS.l0 k1 l0 y136 (wrap64 (x4_1+1)))=some r:=by first|(rw [hy136];with_reducible exact H)|(have H2_:=(Option.bind_some _ _).symm.trans H;rw [hy136];with_reducible exact H2_)|(have H2_:=(Option.bind_some _ _).symm.trans H;with_reducible exact H2_)|with_reducible exact H|(rw [hy136];exact H)|exact H
        have Ny136:=Aside0.mk hy136
        clear hy136
        have H':=Aside0.mk H
        clear H
        have p132:0≤(x4_1:Int):=of_decide_eq_true (by first|(with_reducible assumption)|assumption)
        have q132:x4_1<(l0.length:Int):=of_decide_eq_true (by first|(with_reducible assumption)|assumption)
        obtain ⟨ad132,e132,hx132_0,hx132_1,hx132_2⟩:=at_T90 HR0.out x4_1 p132 q132
        cases e132
        replace hx132_0:=(HB.out.cell (World.block_lt_of_cell? w _ hx132_0)).trans hx132_0
        replace hx132_1:=(HB.out.cell (World.block_lt_of_cell? w _ hx132_1)).trans hx132_1
        replace hx132_2:=(HB.out.cell (World.block_lt_of_cell? w _ hx132_2)).trans hx132_2
        replace p132:=eq_true p132
        replace q132:=eq_true q132
        go_wp2_with (first|((with_reducible refine gate_callee (f:=56) rfl ?_);refine goesL_ (some 20) rfl rfl Try.func56 (by kernel_rfl) rfl #[.agg #[.int .i64 ((rd_T90 l0 x4_1).f0),.int .i64 ((rd_T90 l0 x4_1).f1),.int .i64 ((rd_T90 l0 x4_1).f2)]] rfl (by (try simp only [List.map_toArray,List.map_cons,List.map_nil]);first|done|rfl|(simp only [List.length_drop,List.length_take];rfl)) ?_;(with_reducible refine (laws_toLig.calls ((rd_T90 l0 x4_1).f0) ((rd_T90 l0 x4_1).f1) ((rd_T90 l0 x4_1).f2) t133 t134 t135 _ A8.out).mono ?_);rintro e w11 ⟨rfl,hb⟩;refine ⟨_,rfl,?_⟩;have n0_:=Aside0.mk (Kd.R_below (by (with_reducible repeat (first|apply Kd.R_alloc|apply Kd.R_drewN|apply Kd.R_drew));exact HO_3.out) hb);have n1_:=Aside0.mk (below_step (by repeat (first|(with_reducible first|exact HB.out|apply below_alloc|apply pw_below_drewN|apply below_drew1)|exact HB.out)) hb);clear HO_3;clear HB;have HO_3:=n0_;have HB:=n1_;clear n0_ n1_;(try clear hb);(try clear hb2);(try clear hk);(try clear hi);have p10:0≤(x4_1:Int):=of_decide_eq_true (by first|(with_reducible assumption)|assumption);have q10:(x4_1:Int)<((x3_1.length:Int):Int):=of_decide_eq_true (by first|(with_reducible assumption)|assumption);obtain ⟨go10,co10,eo10,gb10,gl10,cl10,HG10⟩:=Kd.R_form HO_3.out (by omega);(first|cases eo10|(injection eo10 with ea_ en_ ec_;(first|subst ea_|(injection ea_ with ea_;subst ea_));subst ec_;clear en_));have GB10:=Aside0.mk gb10;have GG10:=Aside0.mk HG10;clear gb10 gl10 HG10;obtain ⟨ce10,hcl10,hM10,hcc10,hfr10⟩:=Kd.R_elem HO_3.out z84 (x4_1:Int) p10 q10;obtain rfl:=k84_openM hM10;have hx10_0:w11.cell? ⟨go10,(x4_1:Int).toNat*3,none⟩=some (.int .i64 ((rd_T84 x3_1 x4_1).f0)):=hcc10 0 _ rfl;have hx10_1:w11.cell? ⟨go10,(x4_1:Int).toNat*3+1,none⟩=some (.int .i64 ((rd_T84 x3_1 x4_1).f1)):=hcc10 1 _ rfl;have hx10_2:w11.cell? ⟨go10,(x4_1:Int).toNat*3+2,none⟩=some (.int .i64 ((rd_T84 x3_1 x4_1).f2)):=hcc10 2 _ rfl;have hf10_0:w11.frozen? ⟨go10,(x4_1:Int).toNat*3,none⟩=false:=hfr10 0;have hf10_1:w11.frozen? ⟨go10,(x4_1:Int).toNat*3+1,none⟩=false:=hfr10 1;have hf10_2:w11.frozen? ⟨go10,(x4_1:Int).toNat*3+2,none⟩=false:=hfr10 2;clear hcl10 hcc10 hfr10 hM10;replace p10:=eq_true p10;replace q10:=eq_true q10;have HX12:=Aside0.mk (show Kd.R k84 84 w11 w.heap.size (fun _=>True) (.slice (some ⟨go10,0,none⟩) x3_1.length co10) x3_1 from (by (with_reducible repeat (first|apply Kd.R_alloc|apply Kd.R_drewN|apply Kd.R_drew));exact HO_3.out));obtain ⟨ce12,hcl12,hM12,hcc12,hfr12⟩:=Kd.R_elem HX12.out z84 (x4_1:Int) (of_decide_eq_true (by first|(with_reducible assumption)|assumption)) (by have h_:(x4_1:Int)<((x3_1.length:Int):Int):=of_decide_eq_true (by first|(with_reducible assumption)|assumption);first|exact h_|(have e_:=(Kd.R_reads' HO_3.out).1;omega)|simpa using h_);obtain rfl:=k84_openM hM12;have HP12:=Kd.R_seg HX12.out (x4_1:Int) (of_decide_eq_true (by first|(with_reducible assumption)|assumption)) (by have h_:(x4_1:Int)<((x3_1.length:Int):Int):=of_decide_eq_true (by first|(with_reducible assumption)|assumption);first|exact h_|(have e_:=(Kd.R_reads' HO_3.out).1;omega)|simpa using h_) (seg:=[.int .i64 t133,.int .i64 t134,.int .i64 t135]) (j:=0) hcl12 hcc12 (show 3≤3 from by decide) (x':=(⟨t133,t134,t135⟩:S84)) (k84_mkM _ _ _ (⟨t133,t134,t135⟩:S84)) (fun _ hk=>hk);have hx12_0:=hcc12 0 _ rfl;(try simp only [show (k84).sz=3 from rfl,Nat.mul_one,Nat.add_zero] at hx12_0);have hf12_0:=hfr12 0;(try simp only [show (k84).sz=3 from rfl,Nat.mul_one,Nat.add_zero] at hf12_0);have hx12_1:=hcc12 1 _ rfl;(try simp only [show (k84).sz=3 from rfl,Nat.mul_one,Nat.add_zero] at hx12_1);have hf12_1:=hfr12 1;(try simp only [show (k84).sz=3 from rfl,Nat.mul_one,Nat.add_zero] at hf12_1);have hx12_2:=hcc12 2 _ rfl;(try simp only [show (k84).sz=3 from rfl,Nat.mul_one,Nat.add_zero] at hx12_2);have hf12_2:=hfr12 2;(try simp only [show (k84).sz=3 from rfl,Nat.mul_one,Nat.add_zero] at hf12_2);clear hcl12 hcc12 hfr12 hM12)|((with_reducible refine gate_store (t:=84) (p:=21) rfl ?_);refine store_event (t:=84) (p:=21) (v:=?vo_w13) (w1:=(((w11.setCell ⟨go10,(x4_1:Int).toNat*3,none⟩ (.int .i64 t133)).setCell ⟨go10,(x4_1:Int).toNat*3+1,none⟩ (.int .i64 t134)).setCell ⟨go10,(x4_1:Int).toNat*3+2,none⟩ (.int .i64 t135))) ?hg ?ho ?hn ?hr ?_;(case ho=>rfl);(case hg=>rfl);(case hn=>rfl);(case hr=>first|(go_simp;done)|(go_simp;rfl));intro w13 hw;have hg:w11.grownBy w13 (some go10):=(by rw [hw];exact HP12.2);have hp_:Kd.R k84 84 w13 w.heap.size (fun _=>True) (.slice (some ⟨go10,0,none⟩) x3_1.length co10) y136:=(by rw [hw,Ny136.out];exact HP12.1);clear HP12;have n0_:=Aside0.mk (hp_);have n1_:=Aside0.mk ((by rw [hw];exact below_set (below_set (below_set (HB.out) GB10.out) GB10.out) GB10.out:Below w.heap.size w w13));clear HO_3;clear HB;have HO_3:=n0_;have HB:=n1_;clear n0_ n1_;clear hg hw hp_))
        go_roundg k1
        case measure=>have:=HK1.out;omega
        case rel=>exact ⟨(y136),(wrap64 (x4_1+1)),(by first|rfl|(simp;done)|(simp [*];done)),H',⟨by have:=HK1.out;omega⟩,⟨by (with_reducible repeat (first|apply Kd.R_alloc|apply Kd.R_drewN|apply Kd.R_drew));exact HO_3.out⟩,⟨by repeat (first|(with_reducible first|exact HB.out|apply below_alloc|apply pw_below_drewN|apply below_drew1)|exact HB.out)⟩⟩
       ·rw [if_neg c9] at H
        exact absurd H (by simp)
      ·rw [if_neg c7] at H
       exact absurd H (by simp)
     ·rw [if_neg c6] at H
      have c6b0:decide (x4_1<(l0.length:Int))=false:=decide_eq_false c6
      clear c6
      obtain rfl:=Option.some.inj H
      go_wp2
      go_ret
      exact ⟨_,by first|rfl|(simp [errW_none,errW_some]<;>rfl)|(simp [*,errW_none,errW_some]<;>rfl),by (with_reducible repeat (first|apply Kd.R_alloc|apply Kd.R_drewN|apply Kd.R_drew));exact HO_3.out,by repeat (first|(with_reducible first|exact HB.out|apply below_alloc|apply pw_below_drewN|apply below_drew1)|exact HB.out)⟩
  ·rw [if_neg c3] at H
   exact absurd H (by simp)
 ·rw [if_neg c2] at H
  exact absurd H (by simp)
/-! ### laws_toFont: function 8 -/
def laws_toFont.f (k:Nat) (a0_0:Int) (a0_1:Int) (a0_2:Int) (a0_3:Int) (l0_4:List (S86)) (l0_5:List (S88)) (l0_6:List (S90)):Option (Int×Int×Int×Int×(List (S79))×(List (S81))×(List (S84))):=(laws_toGlyphS.f k l0_4).bind fun t140=>((laws_toKernS.f k l0_5).bind fun t143=>((laws_toLigS.f k l0_6).bind fun t146=>(some (a0_0,a0_1,a0_2,a0_3,t140,t143,t146))))
theorem laws_toFont.mono:∀ a0 a1 a2 a3 a4 a5 a6 k,LeO (laws_toFont.f k a0 a1 a2 a3 a4 a5 a6) (laws_toFont.f (k+1) a0 a1 a2 a3 a4 a5 a6):=by
 intro a0 a1 a2 a3 a4 a5 a6 k
 unfold laws_toFont.f
 repeat' first
   |(with_reducible exact laws_toGlyphS.mono _ _)
   |(with_reducible exact laws_toKernS.mono _ _)
   |(with_reducible exact laws_toLigS.mono _ _)
   |(with_reducible exact LeO.refl _)
   |(with_reducible exact LeO.none _)
   |(with_reducible refine LeO.ite ?_ ?_)
   |(with_reducible refine LeO.bind ?_ (fun _=>?_))
   |exact laws_toGlyphS.mono _ _
   |exact laws_toKernS.mono _ _
   |exact laws_toLigS.mono _ _
   |exact LeO.none _
   |refine LeO.ite ?_ ?_
   |refine LeO.bind ?_ (fun _=>?_)
set_option maxHeartbeats 8000000 in
set_option maxRecDepth 100000 in
theorem laws_toFont.calls (k:Nat) (a0_0:Int) (a0_1:Int) (a0_2:Int) (a0_3:Int) (A0_4:Option Addr) (c0_4:Nat) (l0_4:List (S86)) (A0_5:Option Addr) (c0_5:Nat) (l0_5:List (S88)) (A0_6:Option Addr) (c0_6:Nat) (l0_6:List (S90)) (r1:Int) (r2:Int) (r3:Int) (r4:Int) (r5:List (S79)) (r6:List (S81)) (r7:List (S84)) (w:World) (hr0_4:Kd.C k86 w A0_4 l0_4.length l0_4) (hc0_4:l0_4.length≤c0_4) (hr0_5:Kd.C k88 w A0_5 l0_5.length l0_5) (hc0_5:l0_5.length≤c0_5) (hr0_6:Kd.C k90 w A0_6 l0_6.length l0_6) (hc0_6:l0_6.length≤c0_6) (h:laws_toFont.f k a0_0 a0_1 a0_2 a0_3 l0_4 l0_5 l0_6=some (r1,r2,r3,r4,r5,r6,r7)) :
  Calls Try.prog 8 #[.agg #[.int .i64 a0_0,.int .i64 a0_1,.int .i64 a0_2,.int .i64 a0_3,.slice A0_4 l0_4.length c0_4,.slice A0_5 l0_5.length c0_5,.slice A0_6 l0_6.length c0_6]] w fun e w'=>∃ v4_ v5_ v6_:Value,e=.returned (.agg #[.int .i64 r1,.int .i64 r2,.int .i64 r3,.int .i64 r4,v4_,v5_,v6_])∧Kd.R k79 79 w' w.heap.size (fun _=>True) v4_ r5∧Kd.R k81 81 w' w.heap.size (fun _=>True) v5_ r6∧Kd.R k84 84 w' w.heap.size (fun _=>True) v6_ r7∧Below w.heap.size w w':=by
 have hu26:=Try.underlying26
 have hu34:=Try.underlying34
 have HR0_4:=Aside0.mk hr0_4
 have HC0_4:=Aside0.mk hc0_4
 clear hr0_4 hc0_4
 have HR0_5:=Aside0.mk hr0_5
 have HC0_5:=Aside0.mk hc0_5
 clear hr0_5 hc0_5
 have HR0_6:=Aside0.mk hr0_6
 have HC0_6:=Aside0.mk hc0_6
 clear hr0_6 hc0_6
 have HB:=Aside0.mk (Below.refl w.heap.size w)
 have H:((laws_toGlyphS.f k l0_4).bind fun t140=>((laws_toKernS.f k l0_5).bind fun t143=>((laws_toLigS.f k l0_6).bind fun t146=>(some (a0_0,a0_1,a0_2,a0_3,t140,t143,t146)))))=some (r1,r2,r3,r4,r5,r6,r7):=h
 clear h
 replace H:=Option.bind_eq_some_iff.mp H
 obtain ⟨t140,A20,H⟩:=H
 replace H:((laws_toKernS.f k l0_5).bind fun t143=>((laws_toLigS.f k l0_6).bind fun t146=>(some (a0_0,a0_1,a0_2,a0_3,t140,t143,t146))))=some (r1,r2,r3,r4,r5,r6,r7):=H
 have A2:=Aside0.mk A20
 clear A20
 replace H:=Option.bind_eq_some_iff.mp H
 obtain ⟨t143,A30,H⟩:=H
 replace H:((laws_toLigS.f k l0_6).bind fun t146=>(some (a0_0,a0_1,a0_2,a0_3,t140,t143,t146)))=some (r1,r2,r3,r4,r5,r6,r7):=H
 have A3:=Aside0.mk A30
 clear A30
 replace H:=Option.bind_eq_some_iff.mp H
 obtain ⟨t146,A40,H⟩:=H
 replace H:(some (a0_0,a0_1,a0_2,a0_3,t140,t143,t146))=some (r1,r2,r3,r4,r5,r6,r7):=H
 have A4:=Aside0.mk A40
 clear A40
 simp only [Option.some.injEq,Prod.mk.injEq] at H
 obtain ⟨rfl,rfl,rfl,rfl,rfl,rfl,rfl⟩:=H
 go_enter Try.func8,Try.ntmps8
 go_wp2_with (first|((with_reducible refine gate_dst (N:=1) rfl ?_);refine box_event ?hg (N:=1) ?hd (cs:=#[.int .i64 a0_0,.int .i64 a0_1,.int .i64 a0_2,.int .i64 a0_3,.slice A0_4 l0_4.length c0_4,.slice A0_5 l0_5.length c0_5,.slice A0_6 l0_6.length c0_6]) (t:=26) ?hr ?_;(case hd=>rfl);(case hg=>rfl);(case hr=>first|(go_simp;done)|(go_simp;rfl));intro gb137 hg w5 hbox hb;have n0_:=Aside0.mk (below_step (by repeat (first|(with_reducible first|exact HB.out|apply below_alloc|apply pw_below_drewN|apply below_drew1)|exact HB.out)) hb);have n1_:=Aside0.mk (hbox);have n2_:=Aside0.mk ((by rw [hg];exact (below_size (by repeat (first|(with_reducible first|exact HB.out|apply below_alloc|apply pw_below_drewN|apply below_drew1)|exact HB.out))):w.heap.size≤gb137));have n3_:=Aside0.mk ((by rw [hg];exact (below_size (by repeat (first|(with_reducible first|exact HB.out|apply below_alloc|apply pw_below_drewN|apply below_drew1)|exact HB.out))):w.heap.size≤gb137));clear HB;have HB:=n0_;have BK137:=n1_;have GW137:=n2_;have GE137:=n3_;clear n0_ n1_ n2_ n3_;clear hb hbox hg)|((with_reducible refine gate_dst (N:=2) rfl ?_);refine box_event ?hg (N:=2) ?hd (cs:=#[.int .i64 0,.int .i64 0,.int .i64 0,.int .i64 0,.slice none 0 0,.slice none 0 0,.slice none 0 0]) (t:=34) ?hr ?_;(case hd=>rfl);(case hg=>rfl);(case hr=>first|(go_simp;done)|(go_simp;rfl));intro gb138 hg w6 hbox hb;have n0_:=Aside0.mk (blk_below (g:=gb137) (o:=.cells #[.int .i64 a0_0,.int .i64 a0_1,.int .i64 a0_2,.int .i64 a0_3,.slice A0_4 l0_4.length c0_4,.slice A0_5 l0_5.length c0_5,.slice A0_6 l0_6.length c0_6] 26 (0,0)) (by (with_reducible repeat (first|refine blk_drewN ?_ _|refine blk_drew ?_|refine blk_alloc ?_ _));exact BK137.out) hb);have n1_:=Aside0.mk (below_step (by repeat (first|(with_reducible first|exact HB.out|apply below_alloc|apply pw_below_drewN|apply below_drew1|refine below_set ?_ GE137.out)|exact HB.out)) hb);have n2_:=Aside0.mk (hbox);have n3_:=Aside0.mk ((by rw [hg];exact (below_size (by repeat (first|(with_reducible first|exact HB.out|apply below_alloc|apply pw_below_drewN|apply below_drew1|refine below_set ?_ GE137.out)|exact HB.out))):w.heap.size≤gb138));have n4_:=Aside0.mk ((by rw [hg];exact (below_size (by repeat (first|(with_reducible first|exact HB.out|apply below_alloc|apply pw_below_drewN|apply below_drew1|refine below_set ?_ GE137.out)|exact HB.out))):w.heap.size≤gb138));have n5_:=Aside0.mk ((by rw [hg];exact Nat.ne_of_lt (blk_lt (g:=gb137) (o:=.cells #[.int .i64 a0_0,.int .i64 a0_1,.int .i64 a0_2,.int .i64 a0_3,.slice A0_4 l0_4.length c0_4,.slice A0_5 l0_5.length c0_5,.slice A0_6 l0_6.length c0_6] 26 (0,0)) (by (with_reducible repeat (first|refine blk_drewN ?_ _|refine blk_drew ?_|refine blk_alloc ?_ _));exact BK137.out)):gb137≠gb138));have n6_:=Aside0.mk ((by rw [hg];exact Nat.ne_of_gt (blk_lt (g:=gb137) (o:=.cells #[.int .i64 a0_0,.int .i64 a0_1,.int .i64 a0_2,.int .i64 a0_3,.slice A0_4 l0_4.length c0_4,.slice A0_5 l0_5.length c0_5,.slice A0_6 l0_6.length c0_6] 26 (0,0)) (by (with_reducible repeat (first|refine blk_drewN ?_ _|refine blk_drew ?_|refine blk_alloc ?_ _));exact BK137.out)):gb138≠gb137));clear BK137;clear HB;have BK137:=n0_;have HB:=n1_;have BK138:=n2_;have GW138:=n3_;have GE138:=n4_;have NB137_138:=n5_;have NB138_137:=n6_;clear n0_ n1_ n2_ n3_ n4_ n5_ n6_;clear hb hbox hg)|((with_reducible refine gate_dst (N:=3) rfl ?_);refine box_event ?hg (N:=3) ?hd (cs:=#[.int .i64 0,.int .i64 0,.int .i64 0,.int .i64 0,.slice none 0 0,.slice none 0 0,.slice none 0 0]) (t:=34) ?hr ?_;(case hd=>rfl);(case hg=>rfl);(case hr=>first|(go_simp;done)|(go_simp;rfl));intro gb139 hg w7 hbox hb;have n0_:=Aside0.mk (blk_below (g:=gb137) (o:=.cells #[.int .i64 a0_0,.int .i64 a0_1,.int .i64 a0_2,.int .i64 a0_3,.slice A0_4 l0_4.length c0_4,.slice A0_5 l0_5.length c0_5,.slice A0_6 l0_6.length c0_6] 26 (0,0)) (by (with_reducible repeat (first|refine blk_drewN ?_ _|refine blk_drew ?_|refine blk_alloc ?_ _));exact BK137.out) hb);have n1_:=Aside0.mk (blk_below (g:=gb138) (o:=.cells #[.int .i64 0,.int .i64 0,.int .i64 0,.int .i64 0,.slice none 0 0,.slice none 0 0,.slice none 0 0] 34 (0,0)) (by (with_reducible repeat (first|refine blk_drewN ?_ _|refine blk_drew ?_|refine blk_alloc ?_ _));exact BK138.out) hb);have n2_:=Aside0.mk (below_step (by repeat (first|(with_reducible first|exact HB.out|apply below_alloc|apply pw_below_drewN|apply below_drew1|refine below_set ?_ GE137.out|refine below_set ?_ GE138.out)|exact HB.out)) hb);have n3_:=Aside0.mk (hbox);have n4_:=Aside0.mk ((by rw [hg];exact (below_size (by repeat (first|(with_reducible first|exact HB.out|apply below_alloc|apply pw_below_drewN|apply below_drew1|refine below_set ?_ GE137.out|refine below_set ?_ GE138.out)|exact HB.out))):w.heap.size≤gb139));have n5_:=Aside0.mk ((by rw [hg];exact (below_size (by repeat (first|(with_reducible first|exact HB.out|apply below_alloc|apply pw_below_drewN|apply below_drew1|refine below_set ?_ GE137.out|refine below_set ?_ GE138.out)|exact HB.out))):w.heap.size≤gb139));have n6_:=Aside0.mk ((by rw [hg];exact Nat.ne_of_lt (blk_lt (g:=gb137) (o:=.cells #[.int .i64 a0_0,.int .i64 a0_1,.int .i64 a0_2,.int .i64 a0_3,.slice A0_4 l0_4.length c0_4,.slice A0_5 l0_5.length c0_5,.slice A0_6 l0_6.length c0_6] 26 (0,0)) (by (with_reducible repeat (first|refine blk_drewN ?_ _|refine blk_drew ?_|refine blk_alloc ?_ _));exact BK137.out)):gb137≠gb139));have n7_:=Aside0.mk ((by rw [hg];exact Nat.ne_of_gt (blk_lt (g:=gb137) (o:=.cells #[.int .i64 a0_0,.int .i64 a0_1,.int .i64 a0_2,.int .i64 a0_3,.slice A0_4 l0_4.length c0_4,.slice A0_5 l0_5.length c0_5,.slice A0_6 l0_6.length c0_6] 26 (0,0)) (by (with_reducible repeat (first|refine blk_drewN ?_ _|refine blk_drew ?_|refine blk_alloc ?_ _));exact BK137.out)):gb139≠gb137));have n8_:=Aside0.mk ((by rw [hg];exact Nat.ne_of_lt (blk_lt (g:=gb138) (o:=.cells #[.int .i64 0,.int .i64 0,.int .i64 0,.int .i64 0,.slice none 0 0,.slice none 0 0,.slice none 0 0] 34 (0,0)) (by (with_reducible repeat (first|refine blk_drewN ?_ _|refine blk_drew ?_|refine blk_alloc ?_ _));exact BK138.out)):gb138≠gb139));have n9_:=Aside0.mk ((by rw [hg];exact Nat.ne_of_gt (blk_lt (g:=gb138) (o:=.cells #[.int .i64 0,.int .i64 0,.int .i64 0,.int .i64 0,.slice none 0 0,.slice none 0 0,.slice none 0 0] 34 (0,0)) (by (with_reducible repeat (first|refine blk_drewN ?_ _|refine blk_drew ?_|refine blk_alloc ?_ _));exact BK138.out)):gb139≠gb138));clear BK137;clear BK138;clear HB;have BK137:=n0_;have BK138:=n1_;have HB:=n2_;have BK139:=n3_;have GW139:=n4_;have GE139:=n5_;have NB137_139:=n6_;have NB139_137:=n7_;have NB138_139:=n8_;have NB139_138:=n9_;clear n0_ n1_ n2_ n3_ n4_ n5_ n6_ n7_ n8_ n9_;clear hb hbox hg;have hnb8:=NB137_138.out;have hnc8:=NB138_137.out;have hnb9:=NB137_139.out;have hnc9:=NB139_137.out;have hcz10_0:w7.cell? ⟨gb137,0,none⟩=some (.int .i64 a0_0):=(blk_cell BK137.out 0).trans rfl;have hcz10_1:w7.cell? ⟨gb137,1,none⟩=some (.int .i64 a0_1):=(blk_cell BK137.out 1).trans rfl;have hcz10_2:w7.cell? ⟨gb137,2,none⟩=some (.int .i64 a0_2):=(blk_cell BK137.out 2).trans rfl;have hcz10_3:w7.cell? ⟨gb137,3,none⟩=some (.int .i64 a0_3):=(blk_cell BK137.out 3).trans rfl;have hcz10_4:w7.cell? ⟨gb137,4,none⟩=some (.slice A0_4 l0_4.length c0_4):=(blk_cell BK137.out 4).trans rfl;have hcz10_5:w7.cell? ⟨gb137,5,none⟩=some (.slice A0_5 l0_5.length c0_5):=(blk_cell BK137.out 5).trans rfl;have hcz10_6:w7.cell? ⟨gb137,6,none⟩=some (.slice A0_6 l0_6.length c0_6):=(blk_cell BK137.out 6).trans rfl;have hfz10_0:=blk_frozen BK137.out 0;have hfz10_1:=blk_frozen BK137.out 1;have hfz10_2:=blk_frozen BK137.out 2;have hfz10_3:=blk_frozen BK137.out 3;have hfz10_4:=blk_frozen BK137.out 4;have hfz10_5:=blk_frozen BK137.out 5;have hfz10_6:=blk_frozen BK137.out 6;have hnb11:=NB139_138.out;have hnc11:=NB138_139.out;have hcz12_0:w7.cell? ⟨gb139,0,none⟩=some (.int .i64 0):=(blk_cell BK139.out 0).trans rfl;have hcz12_1:w7.cell? ⟨gb139,1,none⟩=some (.int .i64 0):=(blk_cell BK139.out 1).trans rfl;have hcz12_2:w7.cell? ⟨gb139,2,none⟩=some (.int .i64 0):=(blk_cell BK139.out 2).trans rfl;have hcz12_3:w7.cell? ⟨gb139,3,none⟩=some (.int .i64 0):=(blk_cell BK139.out 3).trans rfl;have hcz12_4:w7.cell? ⟨gb139,4,none⟩=some (.slice none 0 0):=(blk_cell BK139.out 4).trans rfl;have hcz12_5:w7.cell? ⟨gb139,5,none⟩=some (.slice none 0 0):=(blk_cell BK139.out 5).trans rfl;have hcz12_6:w7.cell? ⟨gb139,6,none⟩=some (.slice none 0 0):=(blk_cell BK139.out 6).trans rfl;have hfz12_0:=blk_frozen BK139.out 0;have hfz12_1:=blk_frozen BK139.out 1;have hfz12_2:=blk_frozen BK139.out 2;have hfz12_3:=blk_frozen BK139.out 3;have hfz12_4:=blk_frozen BK139.out 4;have hfz12_5:=blk_frozen BK139.out 5;have hfz12_6:=blk_frozen BK139.out 6)|((with_reducible refine gate_callee (f:=28) rfl ?_);refine goesL_ (some 18) rfl rfl Try.func28 (by kernel_rfl) rfl #[.slice A0_4 l0_4.length c0_4] rfl (by (try simp only [List.map_toArray,List.map_cons,List.map_nil]);first|done|rfl|(simp only [List.length_drop,List.length_take];rfl)) ?_;(with_reducible refine (laws_toGlyphS.calls k _ _ l0_4 t140 _ ?side1 ?side2 A2.out).mono ?_);(case side1=>exact Kd.C_below HR0_4.out (by repeat (first|(with_reducible first|exact HB.out|apply below_alloc|apply pw_below_drewN|apply below_drew1|refine below_set ?_ GE137.out|refine below_set ?_ GE138.out|refine below_set ?_ GE139.out)|exact HB.out)));(case side2=>exact HC0_4.out);rintro e w13 ⟨v141,rfl,ho0,hb⟩;refine ⟨_,rfl,?_⟩;have n0_:=Aside0.mk (Kd.R_lower ho0 (below_size (by repeat (first|(with_reducible first|exact HB.out|apply below_alloc|apply pw_below_drewN|apply below_drew1|refine below_set ?_ GE137.out|refine below_set ?_ GE138.out|refine below_set ?_ GE139.out)|exact HB.out))));have n1_:=Aside0.mk (blk_below (g:=gb137) (o:=.cells #[.int .i64 a0_0,.int .i64 a0_1,.int .i64 a0_2,.int .i64 a0_3,.slice A0_4 l0_4.length c0_4,.slice A0_5 l0_5.length c0_5,.slice A0_6 l0_6.length c0_6] 26 (0,0)) (by (with_reducible repeat (first|refine blk_drewN ?_ _|refine blk_drew ?_|refine blk_alloc ?_ _));refine blk_far ?_ NB137_139.out _;(with_reducible repeat (first|refine blk_drewN ?_ _|refine blk_drew ?_|refine blk_alloc ?_ _));refine blk_far ?_ NB137_139.out _;(with_reducible repeat (first|refine blk_drewN ?_ _|refine blk_drew ?_|refine blk_alloc ?_ _));refine blk_far ?_ NB137_139.out _;(with_reducible repeat (first|refine blk_drewN ?_ _|refine blk_drew ?_|refine blk_alloc ?_ _));refine blk_far ?_ NB137_139.out _;(with_reducible repeat (first|refine blk_drewN ?_ _|refine blk_drew ?_|refine blk_alloc ?_ _));exact BK137.out) hb);have n2_:=Aside0.mk (blk_below (g:=gb138) (o:=.cells #[.int .i64 0,.int .i64 0,.int .i64 0,.int .i64 0,.slice none 0 0,.slice none 0 0,.slice none 0 0] 34 (0,0)) (by (with_reducible repeat (first|refine blk_drewN ?_ _|refine blk_drew ?_|refine blk_alloc ?_ _));refine blk_far ?_ NB138_139.out _;(with_reducible repeat (first|refine blk_drewN ?_ _|refine blk_drew ?_|refine blk_alloc ?_ _));refine blk_far ?_ NB138_139.out _;(with_reducible repeat (first|refine blk_drewN ?_ _|refine blk_drew ?_|refine blk_alloc ?_ _));refine blk_far ?_ NB138_139.out _;(with_reducible repeat (first|refine blk_drewN ?_ _|refine blk_drew ?_|refine blk_alloc ?_ _));refine blk_far ?_ NB138_139.out _;(with_reducible repeat (first|refine blk_drewN ?_ _|refine blk_drew ?_|refine blk_alloc ?_ _));exact BK138.out) hb);have n3_:=Aside0.mk (blk_below (g:=gb139) (o:=.cells #[.int .i64 a0_0,.int .i64 a0_1,.int .i64 a0_2,.int .i64 a0_3,.slice none 0 0,.slice none 0 0,.slice none 0 0] 34 (0,0)) (by (with_reducible repeat (first|refine blk_drewN ?_ _|refine blk_drew ?_|refine blk_alloc ?_ _));refine blk_put (cs:=#[.int .i64 a0_0,.int .i64 a0_1,.int .i64 a0_2,.int .i64 0,.slice none 0 0,.slice none 0 0,.slice none 0 0]) ?_ 3 _ rfl;(with_reducible repeat (first|refine blk_drewN ?_ _|refine blk_drew ?_|refine blk_alloc ?_ _));refine blk_put (cs:=#[.int .i64 a0_0,.int .i64 a0_1,.int .i64 0,.int .i64 0,.slice none 0 0,.slice none 0 0,.slice none 0 0]) ?_ 2 _ rfl;(with_reducible repeat (first|refine blk_drewN ?_ _|refine blk_drew ?_|refine blk_alloc ?_ _));refine blk_put (cs:=#[.int .i64 a0_0,.int .i64 0,.int .i64 0,.int .i64 0,.slice none 0 0,.slice none 0 0,.slice none 0 0]) ?_ 1 _ rfl;(with_reducible repeat (first|refine blk_drewN ?_ _|refine blk_drew ?_|refine blk_alloc ?_ _));refine blk_put (cs:=#[.int .i64 0,.int .i64 0,.int .i64 0,.int .i64 0,.slice none 0 0,.slice none 0 0,.slice none 0 0]) ?_ 0 _ rfl;(with_reducible repeat (first|refine blk_drewN ?_ _|refine blk_drew ?_|refine blk_alloc ?_ _));exact BK139.out) hb);have n4_:=Aside0.mk (below_step (by repeat (first|(with_reducible first|exact HB.out|apply below_alloc|apply pw_below_drewN|apply below_drew1|refine below_set ?_ GE137.out|refine below_set ?_ GE138.out|refine below_set ?_ GE139.out)|exact HB.out)) hb);clear BK137;clear BK138;clear BK139;clear HB;have HO142:=n0_;have BK137:=n1_;have BK138:=n2_;have BK139:=n3_;have HB:=n4_;clear n0_ n1_ n2_ n3_ n4_;(try clear hb);(try clear hb2);(try clear hk);(try clear hi);(try clear ho0);obtain ⟨Ao14,co14,eo14⟩:=Kd.R_slice HO142.out;subst eo14;have hcz15_0:w13.cell? ⟨gb139,0,none⟩=some (.int .i64 a0_0):=(blk_cell BK139.out 0).trans rfl;have hcz15_1:w13.cell? ⟨gb139,1,none⟩=some (.int .i64 a0_1):=(blk_cell BK139.out 1).trans rfl;have hcz15_2:w13.cell? ⟨gb139,2,none⟩=some (.int .i64 a0_2):=(blk_cell BK139.out 2).trans rfl;have hcz15_3:w13.cell? ⟨gb139,3,none⟩=some (.int .i64 a0_3):=(blk_cell BK139.out 3).trans rfl;have hcz15_4:w13.cell? ⟨gb139,4,none⟩=some (.slice none 0 0):=(blk_cell BK139.out 4).trans rfl;have hcz15_5:w13.cell? ⟨gb139,5,none⟩=some (.slice none 0 0):=(blk_cell BK139.out 5).trans rfl;have hcz15_6:w13.cell? ⟨gb139,6,none⟩=some (.slice none 0 0):=(blk_cell BK139.out 6).trans rfl;have hfz15_0:=blk_frozen BK139.out 0;have hfz15_1:=blk_frozen BK139.out 1;have hfz15_2:=blk_frozen BK139.out 2;have hfz15_3:=blk_frozen BK139.out 3;have hfz15_4:=blk_frozen BK139.out 4;have hfz15_5:=blk_frozen BK139.out 5;have hfz15_6:=blk_frozen BK139.out 6;have hcz16_0:w13.cell? ⟨gb137,0,none⟩=some (.int .i64 a0_0):=(blk_cell BK137.out 0).trans rfl;have hcz16_1:w13.cell? ⟨gb137,1,none⟩=some (.int .i64 a0_1):=(blk_cell BK137.out 1).trans rfl;have hcz16_2:w13.cell? ⟨gb137,2,none⟩=some (.int .i64 a0_2):=(blk_cell BK137.out 2).trans rfl;have hcz16_3:w13.cell? ⟨gb137,3,none⟩=some (.int .i64 a0_3):=(blk_cell BK137.out 3).trans rfl;have hcz16_4:w13.cell? ⟨gb137,4,none⟩=some (.slice A0_4 l0_4.length c0_4):=(blk_cell BK137.out 4).trans rfl;have hcz16_5:w13.cell? ⟨gb137,5,none⟩=some (.slice A0_5 l0_5.length c0_5):=(blk_cell BK137.out 5).trans rfl;have hcz16_6:w13.cell? ⟨gb137,6,none⟩=some (.slice A0_6 l0_6.length c0_6):=(blk_cell BK137.out 6).trans rfl;have hfz16_0:=blk_frozen BK137.out 0;have hfz16_1:=blk_frozen BK137.out 1;have hfz16_2:=blk_frozen BK137.out 2;have hfz16_3:=blk_frozen BK137.out 3;have hfz16_4:=blk_frozen BK137.out 4;have hfz16_5:=blk_frozen BK137.out 5;have hfz16_6:=blk_frozen BK137.out 6)|((with_reducible refine gate_callee (f:=29) rfl ?_);refine goesL_ (some 22) rfl rfl Try.func29 (by kernel_rfl) rfl #[.slice A0_5 l0_5.length c0_5] rfl (by (try simp only [List.map_toArray,List.map_cons,List.map_nil]);first|done|rfl|(simp only [List.length_drop,List.length_take];rfl)) ?_;(with_reducible refine (laws_toKernS.calls k _ _ l0_5 t143 _ ?side1 ?side2 A3.out).mono ?_);(case side1=>exact Kd.C_below HR0_5.out (by repeat (first|(with_reducible first|exact HB.out|apply below_alloc|apply pw_below_drewN|apply below_drew1|refine below_set ?_ GE137.out|refine below_set ?_ GE138.out|refine below_set ?_ GE139.out)|exact HB.out)));(case side2=>exact HC0_5.out);rintro e w17 ⟨v144,rfl,ho0,hb⟩;refine ⟨_,rfl,?_⟩;have n0_:=Aside0.mk (Kd.R_below (by (with_reducible repeat (first|apply Kd.R_alloc|apply Kd.R_drewN|apply Kd.R_drew));exact (Kd.R_mono (Kd.R_far (p:=⟨gb139,4,none⟩) (Kd.R_types HO142.out BK139.out (by decide)) (fun _ hk=>hk.2) (.slice Ao14 t140.length co14)) (fun _ h_=>h_.1))) hb);have n1_:=Aside0.mk (Kd.R_lower ho0 (below_size (by repeat (first|(with_reducible first|exact HB.out|apply below_alloc|apply pw_below_drewN|apply below_drew1|refine below_set ?_ GE137.out|refine below_set ?_ GE138.out|refine below_set ?_ GE139.out)|exact HB.out))));have n2_:=Aside0.mk (blk_below (g:=gb137) (o:=.cells #[.int .i64 a0_0,.int .i64 a0_1,.int .i64 a0_2,.int .i64 a0_3,.slice A0_4 l0_4.length c0_4,.slice A0_5 l0_5.length c0_5,.slice A0_6 l0_6.length c0_6] 26 (0,0)) (by (with_reducible repeat (first|refine blk_drewN ?_ _|refine blk_drew ?_|refine blk_alloc ?_ _));refine blk_far ?_ NB137_139.out _;(with_reducible repeat (first|refine blk_drewN ?_ _|refine blk_drew ?_|refine blk_alloc ?_ _));exact BK137.out) hb);have n3_:=Aside0.mk (blk_below (g:=gb138) (o:=.cells #[.int .i64 0,.int .i64 0,.int .i64 0,.int .i64 0,.slice none 0 0,.slice none 0 0,.slice none 0 0] 34 (0,0)) (by (with_reducible repeat (first|refine blk_drewN ?_ _|refine blk_drew ?_|refine blk_alloc ?_ _));refine blk_far ?_ NB138_139.out _;(with_reducible repeat (first|refine blk_drewN ?_ _|refine blk_drew ?_|refine blk_alloc ?_ _));exact BK138.out) hb);have n4_:=Aside0.mk (blk_below (g:=gb139) (o:=.cells #[.int .i64 a0_0,.int .i64 a0_1,.int .i64 a0_2,.int .i64 a0_3,.slice Ao14 t140.length co14,.slice none 0 0,.slice none 0 0] 34 (0,0)) (by (with_reducible repeat (first|refine blk_drewN ?_ _|refine blk_drew ?_|refine blk_alloc ?_ _));refine blk_put (cs:=#[.int .i64 a0_0,.int .i64 a0_1,.int .i64 a0_2,.int .i64 a0_3,.slice none 0 0,.slice none 0 0,.slice none 0 0]) ?_ 4 _ rfl;(with_reducible repeat (first|refine blk_drewN ?_ _|refine blk_drew ?_|refine blk_alloc ?_ _));exact BK139.out) hb);have n5_:=Aside0.mk (below_step (by repeat (first|(with_reducible first|exact HB.out|apply below_alloc|apply pw_below_drewN|apply below_drew1|refine below_set ?_ GE137.out|refine below_set ?_ GE138.out|refine below_set ?_ GE139.out)|exact HB.out)) hb);clear HO142;clear BK137;clear BK138;clear BK139;clear HB;have HO142:=n0_;have HO145:=n1_;have BK137:=n2_;have BK138:=n3_;have BK139:=n4_;have HB:=n5_;clear n0_ n1_ n2_ n3_ n4_ n5_;(try clear hb);(try clear hb2);(try clear hk);(try clear hi);(try clear ho0);obtain ⟨Ao18,co18,eo18⟩:=Kd.R_slice HO145.out;subst eo18;have hcz19_0:w17.cell? ⟨gb139,0,none⟩=some (.int .i64 a0_0):=(blk_cell BK139.out 0).trans rfl;have hcz19_1:w17.cell? ⟨gb139,1,none⟩=some (.int .i64 a0_1):=(blk_cell BK139.out 1).trans rfl;have hcz19_2:w17.cell? ⟨gb139,2,none⟩=some (.int .i64 a0_2):=(blk_cell BK139.out 2).trans rfl;have hcz19_3:w17.cell? ⟨gb139,3,none⟩=some (.int .i64 a0_3):=(blk_cell BK139.out 3).trans rfl;have hcz19_4:w17.cell? ⟨gb139,4,none⟩=some (.slice Ao14 t140.length co14):=(blk_cell BK139.out 4).trans rfl;have hcz19_5:w17.cell? ⟨gb139,5,none⟩=some (.slice none 0 0):=(blk_cell BK139.out 5).trans rfl;have hcz19_6:w17.cell? ⟨gb139,6,none⟩=some (.slice none 0 0):=(blk_cell BK139.out 6).trans rfl;have hfz19_0:=blk_frozen BK139.out 0;have hfz19_1:=blk_frozen BK139.out 1;have hfz19_2:=blk_frozen BK139.out 2;have hfz19_3:=blk_frozen BK139.out 3;have hfz19_4:=blk_frozen BK139.out 4;have hfz19_5:=blk_frozen BK139.out 5;have hfz19_6:=blk_frozen BK139.out 6;have hcz20_0:w17.cell? ⟨gb137,0,none⟩=some (.int .i64 a0_0):=(blk_cell BK137.out 0).trans rfl;have hcz20_1:w17.cell? ⟨gb137,1,none⟩=some (.int .i64 a0_1):=(blk_cell BK137.out 1).trans rfl;have hcz20_2:w17.cell? ⟨gb137,2,none⟩=some (.int .i64 a0_2):=(blk_cell BK137.out 2).trans rfl;have hcz20_3:w17.cell? ⟨gb137,3,none⟩=some (.int .i64 a0_3):=(blk_cell BK137.out 3).trans rfl;have hcz20_4:w17.cell? ⟨gb137,4,none⟩=some (.slice A0_4 l0_4.length c0_4):=(blk_cell BK137.out 4).trans rfl;have hcz20_5:w17.cell? ⟨gb137,5,none⟩=some (.slice A0_5 l0_5.length c0_5):=(blk_cell BK137.out 5).trans rfl;have hcz20_6:w17.cell? ⟨gb137,6,none⟩=some (.slice A0_6 l0_6.length c0_6):=(blk_cell BK137.out 6).trans rfl;have hfz20_0:=blk_frozen BK137.out 0;have hfz20_1:=blk_frozen BK137.out 1;have hfz20_2:=blk_frozen BK137.out 2;have hfz20_3:=blk_frozen BK137.out 3;have hfz20_4:=blk_frozen BK137.out 4;have hfz20_5:=blk_frozen BK137.out 5;have hfz20_6:=blk_frozen BK137.out 6)|((with_reducible refine gate_callee (f:=30) rfl ?_);refine goesL_ (some 26) rfl rfl Try.func30 (by kernel_rfl) rfl #[.slice A0_6 l0_6.length c0_6] rfl (by (try simp only [List.map_toArray,List.map_cons,List.map_nil]);first|done|rfl|(simp only [List.length_drop,List.length_take];rfl)) ?_;(with_reducible refine (laws_toLigS.calls k _ _ l0_6 t146 _ ?side1 ?side2 A4.out).mono ?_);(case side1=>exact Kd.C_below HR0_6.out (by repeat (first|(with_reducible first|exact HB.out|apply below_alloc|apply pw_below_drewN|apply below_drew1|refine below_set ?_ GE137.out|refine below_set ?_ GE138.out|refine below_set ?_ GE139.out)|exact HB.out)));(case side2=>exact HC0_6.out);rintro e w21 ⟨v147,rfl,ho0,hb⟩;refine ⟨_,rfl,?_⟩;have n0_:=Aside0.mk (Kd.R_below (by (with_reducible repeat (first|apply Kd.R_alloc|apply Kd.R_drewN|apply Kd.R_drew));exact (Kd.R_mono (Kd.R_far (p:=⟨gb139,5,none⟩) (Kd.R_types HO142.out BK139.out (by decide)) (fun _ hk=>hk.2) (.slice Ao18 t143.length co18)) (fun _ h_=>h_.1))) hb);have n1_:=Aside0.mk (Kd.R_below (by (with_reducible repeat (first|apply Kd.R_alloc|apply Kd.R_drewN|apply Kd.R_drew));exact (Kd.R_mono (Kd.R_far (p:=⟨gb139,5,none⟩) (Kd.R_types HO145.out BK139.out (by decide)) (fun _ hk=>hk.2) (.slice Ao18 t143.length co18)) (fun _ h_=>h_.1))) hb);have n2_:=Aside0.mk (Kd.R_lower ho0 (below_size (by repeat (first|(with_reducible first|exact HB.out|apply below_alloc|apply pw_below_drewN|apply below_drew1|refine below_set ?_ GE137.out|refine below_set ?_ GE138.out|refine below_set ?_ GE139.out)|exact HB.out))));have n3_:=Aside0.mk (blk_below (g:=gb137) (o:=.cells #[.int .i64 a0_0,.int .i64 a0_1,.int .i64 a0_2,.int .i64 a0_3,.slice A0_4 l0_4.length c0_4,.slice A0_5 l0_5.length c0_5,.slice A0_6 l0_6.length c0_6] 26 (0,0)) (by (with_reducible repeat (first|refine blk_drewN ?_ _|refine blk_drew ?_|refine blk_alloc ?_ _));refine blk_far ?_ NB137_139.out _;(with_reducible repeat (first|refine blk_drewN ?_ _|refine blk_drew ?_|refine blk_alloc ?_ _));exact BK137.out) hb);have n4_:=Aside0.mk (blk_below (g:=gb138) (o:=.cells #[.int .i64 0,.int .i64 0,.int .i64 0,.int .i64 0,.slice none 0 0,.slice none 0 0,.slice none 0 0] 34 (0,0)) (by (with_reducible repeat (first|refine blk_drewN ?_ _|refine blk_drew ?_|refine blk_alloc ?_ _));refine blk_far ?_ NB138_139.out _;(with_reducible repeat (first|refine blk_drewN ?_ _|refine blk_drew ?_|refine blk_alloc ?_ _));exact BK138.out) hb);have n5_:=Aside0.mk (blk_below (g:=gb139) (o:=.cells #[.int .i64 a0_0,.int .i64 a0_1,.int .i64 a0_2,.int .i64 a0_3,.slice Ao14 t140.length co14,.slice Ao18 t143.length co18,.slice none 0 0] 34 (0,0)) (by (with_reducible repeat (first|refine blk_drewN ?_ _|refine blk_drew ?_|refine blk_alloc ?_ _));refine blk_put (cs:=#[.int .i64 a0_0,.int .i64 a0_1,.int .i64 a0_2,.int .i64 a0_3,.slice Ao14 t140.length co14,.slice none 0 0,.slice none 0 0]) ?_ 5 _ rfl;(with_reducible repeat (first|refine blk_drewN ?_ _|refine blk_drew ?_|refine blk_alloc ?_ _));exact BK139.out) hb);have n6_:=Aside0.mk (below_step (by repeat (first|(with_reducible first|exact HB.out|apply below_alloc|apply pw_below_drewN|apply below_drew1|refine below_set ?_ GE137.out|refine below_set ?_ GE138.out|refine below_set ?_ GE139.out)|exact HB.out)) hb);clear HO142;clear HO145;clear BK137;clear BK138;clear BK139;clear HB;have HO142:=n0_;have HO145:=n1_;have HO148:=n2_;have BK137:=n3_;have BK138:=n4_;have BK139:=n5_;have HB:=n6_;clear n0_ n1_ n2_ n3_ n4_ n5_ n6_;(try clear hb);(try clear hb2);(try clear hk);(try clear hi);(try clear ho0);obtain ⟨Ao22,co22,eo22⟩:=Kd.R_slice HO148.out;subst eo22;have hcz23_0:w21.cell? ⟨gb139,0,none⟩=some (.int .i64 a0_0):=(blk_cell BK139.out 0).trans rfl;have hcz23_1:w21.cell? ⟨gb139,1,none⟩=some (.int .i64 a0_1):=(blk_cell BK139.out 1).trans rfl;have hcz23_2:w21.cell? ⟨gb139,2,none⟩=some (.int .i64 a0_2):=(blk_cell BK139.out 2).trans rfl;have hcz23_3:w21.cell? ⟨gb139,3,none⟩=some (.int .i64 a0_3):=(blk_cell BK139.out 3).trans rfl;have hcz23_4:w21.cell? ⟨gb139,4,none⟩=some (.slice Ao14 t140.length co14):=(blk_cell BK139.out 4).trans rfl;have hcz23_5:w21.cell? ⟨gb139,5,none⟩=some (.slice Ao18 t143.length co18):=(blk_cell BK139.out 5).trans rfl;have hcz23_6:w21.cell? ⟨gb139,6,none⟩=some (.slice none 0 0):=(blk_cell BK139.out 6).trans rfl;have hfz23_0:=blk_frozen BK139.out 0;have hfz23_1:=blk_frozen BK139.out 1;have hfz23_2:=blk_frozen BK139.out 2;have hfz23_3:=blk_frozen BK139.out 3;have hfz23_4:=blk_frozen BK139.out 4;have hfz23_5:=blk_frozen BK139.out 5;have hfz23_6:=blk_frozen BK139.out 6;have hcz24_0:w21.cell? ⟨gb138,0,none⟩=some (.int .i64 0):=(blk_cell BK138.out 0).trans rfl;have hcz24_1:w21.cell? ⟨gb138,1,none⟩=some (.int .i64 0):=(blk_cell BK138.out 1).trans rfl;have hcz24_2:w21.cell? ⟨gb138,2,none⟩=some (.int .i64 0):=(blk_cell BK138.out 2).trans rfl;have hcz24_3:w21.cell? ⟨gb138,3,none⟩=some (.int .i64 0):=(blk_cell BK138.out 3).trans rfl;have hcz24_4:w21.cell? ⟨gb138,4,none⟩=some (.slice none 0 0):=(blk_cell BK138.out 4).trans rfl;have hcz24_5:w21.cell? ⟨gb138,5,none⟩=some (.slice none 0 0):=(blk_cell BK138.out 5).trans rfl;have hcz24_6:w21.cell? ⟨gb138,6,none⟩=some (.slice none 0 0):=(blk_cell BK138.out 6).trans rfl;have hfz24_0:=blk_frozen BK138.out 0;have hfz24_1:=blk_frozen BK138.out 1;have hfz24_2:=blk_frozen BK138.out 2;have hfz24_3:=blk_frozen BK138.out 3;have hfz24_4:=blk_frozen BK138.out 4;have hfz24_5:=blk_frozen BK138.out 5;have hfz24_6:=blk_frozen BK138.out 6))
 refine bodyPost_ret (results_cell_row rfl _ _ gb138 34 #[.int .i64 a0_0,.int .i64 a0_1,.int .i64 a0_2,.int .i64 a0_3,.slice Ao14 t140.length co14,.slice Ao18 t143.length co18,.slice Ao22 t146.length co22] (0,0) _ rfl (by (with_reducible repeat (first|refine blk_drewN ?_ _|refine blk_drew ?_|refine blk_alloc ?_ _));refine blk_put (cs:=#[.int .i64 a0_0,.int .i64 a0_1,.int .i64 a0_2,.int .i64 a0_3,.slice Ao14 t140.length co14,.slice Ao18 t143.length co18,.slice none 0 0]) ?_ 6 _ rfl;(with_reducible repeat (first|refine blk_drewN ?_ _|refine blk_drew ?_|refine blk_alloc ?_ _));refine blk_put (cs:=#[.int .i64 a0_0,.int .i64 a0_1,.int .i64 a0_2,.int .i64 a0_3,.slice Ao14 t140.length co14,.slice none 0 0,.slice none 0 0]) ?_ 5 _ rfl;(with_reducible repeat (first|refine blk_drewN ?_ _|refine blk_drew ?_|refine blk_alloc ?_ _));refine blk_put (cs:=#[.int .i64 a0_0,.int .i64 a0_1,.int .i64 a0_2,.int .i64 a0_3,.slice none 0 0,.slice none 0 0,.slice none 0 0]) ?_ 4 _ rfl;(with_reducible repeat (first|refine blk_drewN ?_ _|refine blk_drew ?_|refine blk_alloc ?_ _));refine blk_put (cs:=#[.int .i64 a0_0,.int .i64 a0_1,.int .i64 a0_2,.int .i64 0,.slice none 0 0,.slice none 0 0,.slice none 0 0]) ?_ 3 _ rfl;(with_reducible repeat (first|refine blk_drewN ?_ _|refine blk_drew ?_|refine blk_alloc ?_ _));refine blk_put (cs:=#[.int .i64 a0_0,.int .i64 a0_1,.int .i64 0,.int .i64 0,.slice none 0 0,.slice none 0 0,.slice none 0 0]) ?_ 2 _ rfl;(with_reducible repeat (first|refine blk_drewN ?_ _|refine blk_drew ?_|refine blk_alloc ?_ _));refine blk_put (cs:=#[.int .i64 a0_0,.int .i64 0,.int .i64 0,.int .i64 0,.slice none 0 0,.slice none 0 0,.slice none 0 0]) ?_ 1 _ rfl;(with_reducible repeat (first|refine blk_drewN ?_ _|refine blk_drew ?_|refine blk_alloc ?_ _));refine blk_put (cs:=#[.int .i64 0,.int .i64 0,.int .i64 0,.int .i64 0,.slice none 0 0,.slice none 0 0,.slice none 0 0]) ?_ 0 _ rfl;(with_reducible repeat (first|refine blk_drewN ?_ _|refine blk_drew ?_|refine blk_alloc ?_ _));refine blk_far ?_ NB138_139.out _;(with_reducible repeat (first|refine blk_drewN ?_ _|refine blk_drew ?_|refine blk_alloc ?_ _));exact BK138.out) Try.underlying34 rfl (by kernel_rfl)) rfl ?_
 exact ⟨_,_,_,by first|rfl|(simp [errW_none,errW_some]<;>rfl)|(simp [*,errW_none,errW_some]<;>rfl),by (with_reducible repeat (first|apply Kd.R_alloc|apply Kd.R_drewN|apply Kd.R_drew));exact Kd.R_mono (Kd.R_far (p:=⟨gb138,6,none⟩) (Kd.R_far (p:=⟨gb138,5,none⟩) (Kd.R_far (p:=⟨gb138,4,none⟩) (Kd.R_far (p:=⟨gb138,3,none⟩) (Kd.R_far (p:=⟨gb138,2,none⟩) (Kd.R_far (p:=⟨gb138,1,none⟩) (Kd.R_far (p:=⟨gb138,0,none⟩) (Kd.R_far (p:=⟨gb139,6,none⟩) (Kd.R_types (Kd.R_types HO142.out BK139.out (by decide)) BK138.out (by decide)) (fun _ hk=>hk.1.2) (.slice Ao22 t146.length co22)) (fun _ hk=>hk.2) (.int .i64 a0_0)) (fun _ hk=>hk.2) (.int .i64 a0_1)) (fun _ hk=>hk.2) (.int .i64 a0_2)) (fun _ hk=>hk.2) (.int .i64 a0_3)) (fun _ hk=>hk.2) (.slice Ao14 t140.length co14)) (fun _ hk=>hk.2) (.slice Ao18 t143.length co18)) (fun _ hk=>hk.2) (.slice Ao22 t146.length co22)) (fun _ hk=>trivial),by (with_reducible repeat (first|apply Kd.R_alloc|apply Kd.R_drewN|apply Kd.R_drew));exact Kd.R_mono (Kd.R_far (p:=⟨gb138,6,none⟩) (Kd.R_far (p:=⟨gb138,5,none⟩) (Kd.R_far (p:=⟨gb138,4,none⟩) (Kd.R_far (p:=⟨gb138,3,none⟩) (Kd.R_far (p:=⟨gb138,2,none⟩) (Kd.R_far (p:=⟨gb138,1,none⟩) (Kd.R_far (p:=⟨gb138,0,none⟩) (Kd.R_far (p:=⟨gb139,6,none⟩) (Kd.R_types (Kd.R_types HO145.out BK139.out (by decide)) BK138.out (by decide)) (fun _ hk=>hk.1.2) (.slice Ao22 t146.length co22)) (fun _ hk=>hk.2) (.int .i64 a0_0)) (fun _ hk=>hk.2) (.int .i64 a0_1)) (fun _ hk=>hk.2) (.int .i64 a0_2)) (fun _ hk=>hk.2) (.int .i64 a0_3)) (fun _ hk=>hk.2) (.slice Ao14 t140.length co14)) (fun _ hk=>hk.2) (.slice Ao18 t143.length co18)) (fun _ hk=>hk.2) (.slice Ao22 t146.length co22)) (fun _ hk=>trivial),by (with_reducible repeat (first|apply Kd.R_alloc|apply Kd.R_drewN|apply Kd.R_drew));exact Kd.R_mono (Kd.R_far (p:=⟨gb138,6,none⟩) (Kd.R_far (p:=⟨gb138,5,none⟩) (Kd.R_far (p:=⟨gb138,4,none⟩) (Kd.R_far (p:=⟨gb138,3,none⟩) (Kd.R_far (p:=⟨gb138,2,none⟩) (Kd.R_far (p:=⟨gb138,1,none⟩) (Kd.R_far (p:=⟨gb138,0,none⟩) (Kd.R_far (p:=⟨gb139,6,none⟩) (Kd.R_types (Kd.R_types HO148.out BK139.out (by decide)) BK138.out (by decide)) (fun _ hk=>hk.1.2) (.slice Ao22 t146.length co22)) (fun _ hk=>hk.2) (.int .i64 a0_0)) (fun _ hk=>hk.2) (.int .i64 a0_1)) (fun _ hk=>hk.2) (.int .i64 a0_2)) (fun _ hk=>hk.2) (.int .i64 a0_3)) (fun _ hk=>hk.2) (.slice Ao14 t140.length co14)) (fun _ hk=>hk.2) (.slice Ao18 t143.length co18)) (fun _ hk=>hk.2) (.slice Ao22 t146.length co22)) (fun _ hk=>trivial),by repeat (first|(with_reducible first|exact HB.out|apply below_alloc|apply pw_below_drewN|apply below_drew1|refine below_set ?_ GE137.out|refine below_set ?_ GE138.out|refine below_set ?_ GE139.out)|exact HB.out)⟩
/-! ### laws_toIntS: function 9 -/
def laws_toIntS.l0:Nat→List Int→List Int→Int→Option (List Int)
 |0,_,_,_=>none
 |k+1,x0,x3,x4=>if x4<(x0.length:Int) then (if 0≤x4 then (if x4<(x3.length:Int) then (laws_toIntS.l0 k x0 (x3.set (x4:Int).toNat (rd x0 x4)) (wrap64 (x4+1))) else (none)) else (none)) else (some x3)
def laws_toIntS.f (k:Nat) (l0:List Int):Option (List Int):=if 0≤(l0.length:Int) then (if ((l0.length:Int):Int).toNat≤35184372088832 then (laws_toIntS.l0 k l0 (List.replicate ((l0.length:Int):Int).toNat 0) 0) else (none)) else (none)
theorem laws_toIntS.mono_l:∀ k,(∀ y0 y1 y2,LeO (laws_toIntS.l0 k y0 y1 y2) (laws_toIntS.l0 (k+1) y0 y1 y2))
 |0=>fun _ _ _ r h=>by simp [laws_toIntS.l0] at h
 |k+1=>by
  have ih0:=laws_toIntS.mono_l k
  ·intro y0 y1 y2
   unfold laws_toIntS.l0
   repeat' first
   |(with_reducible exact ih0 _ _ _)
   |(with_reducible exact LeO.refl _)
   |(with_reducible exact LeO.none _)
   |(with_reducible refine LeO.ite ?_ ?_)
   |(with_reducible refine LeO.bind ?_ (fun _=>?_))
   |exact ih0 _ _ _
   |exact LeO.none _
   |refine LeO.ite ?_ ?_
   |refine LeO.bind ?_ (fun _=>?_)
theorem laws_toIntS.mono:∀ a0 k,LeO (laws_toIntS.f k a0) (laws_toIntS.f (k+1) a0):=by
 intro a0 k
 have ih0:=laws_toIntS.mono_l k
 unfold laws_toIntS.f
 repeat' first
   |(with_reducible exact ih0 _ _ _)
   |(with_reducible exact LeO.refl _)
   |(with_reducible exact LeO.none _)
   |(with_reducible refine LeO.ite ?_ ?_)
   |(with_reducible refine LeO.bind ?_ (fun _=>?_))
   |exact ih0 _ _ _
   |exact LeO.none _
   |refine LeO.ite ?_ ?_
   |refine LeO.bind ?_ (fun _=>?_)
set_option maxHeartbeats 8000000 in
set_option maxRecDepth 100000 in
theorem laws_toIntS.calls (k:Nat) (A0:Option Addr) (c0:Nat) (l0:List Int) (r:List Int) (w:World) (hr0:Kd.C (Kd.int .i64) w A0 l0.length l0) (hc0:l0.length≤c0) (h:laws_toIntS.f k l0=some r) :
  Calls Try.prog 9 #[.slice A0 l0.length c0] w fun e w'=>∃ v0_:Value,e=.returned (v0_)∧Kd.R (Kd.int .i64) 3 w' w.heap.size (fun _=>True) v0_ r∧Below w.heap.size w w':=by
 have HR0:=Aside0.mk hr0
 have HC0:=Aside0.mk hc0
 clear hr0 hc0
 have HB:=Aside0.mk (Below.refl w.heap.size w)
 have H:(if 0≤(l0.length:Int) then (if ((l0.length:Int):Int).toNat≤35184372088832 then (laws_toIntS.l0 k l0 (List.replicate ((l0.length:Int):Int).toNat 0) 0) else (none)) else (none))=some r:=h
 clear h
 by_cases c2:0≤(l0.length:Int)
 ·rw [if_pos c2] at H
  have c2b0:=eq_true c2
  have c2b1:decide (0≤(l0.length:Int))=true:=decide_eq_true c2
  clear c2
  by_cases c3:((l0.length:Int):Int).toNat≤35184372088832
  ·rw [if_pos c3] at H
   have c3b0:=eq_true c3
   have c3b1:decide (((l0.length:Int):Int).toNat≤35184372088832)=true:=decide_eq_true c3
   clear c3
   obtain ⟨y149,hy149⟩:∃ y_:List Int,y_=(List.replicate ((l0.length:Int):Int).toNat 0):=⟨_,rfl⟩
   replace H:(laws_toIntS.l0 k l0 y149 0)=some r:=by first|(rw [hy149];with_reducible exact H)|(have H2_:=(Option.bind_some _ _).symm.trans H;rw [hy149];with_reducible exact H2_)|(have H2_:=(Option.bind_some _ _).symm.trans H;with_reducible exact H2_)|with_reducible exact H|(rw [hy149];exact H)|exact H
   have Ny149:=Aside0.mk hy149
   clear hy149
   have H':=Aside0.mk H
   clear H
   go_enter Try.func9,Try.ntmps9
   go_wp2_with (first|((with_reducible refine gate_dst (N:=7) rfl ?_);refine Kd.R_make (Kd.int .i64) _ 3 rfl (N:=7) rfl 27 _ _ rfl (l0.length:Int) rfl rfl Try.underlying27 (.int .i64 0) 8 info3 rfl (by decide) (by omega) 0 (ok:=fun _=>True) (okp:=fun _=>True) rfl (fun _ hk=>hk) trivial (of_decide_eq_true (by first|(with_reducible assumption)|assumption)) (Nat.le_trans (Nat.mul_le_mul_right _ (of_decide_eq_true (by first|(with_reducible assumption)|assumption):(l0.length:Int).toNat≤35184372088832)) (by omega)) (Below.refl _ _) (Nat.le_refl _) ?_;intro v150 w4 ho5 hb hg_ hnew_;clear hg_ hnew_;(first|rw [← Ny149.out] at ho5|(simp only [Int.reduceToNat] at ho5;rw [← Ny149.out] at ho5));have n0_:=Aside0.mk (Kd.R_lower ho5 (below_size (by repeat (first|(with_reducible first|exact HB.out|apply below_alloc|apply pw_below_drewN|apply below_drew1)|exact HB.out))));have n1_:=Aside0.mk (below_step (by repeat (first|(with_reducible first|exact HB.out|apply below_alloc|apply pw_below_drewN|apply below_drew1)|exact HB.out)) hb);clear HB;have HO151:=n0_;have HB:=n1_;clear n0_ n1_;clear hb ho5))
   go_loopg [4] k (fun kq v4 w'=>∃ (x3_1:List Int) (x4_1:Int),v4=.int .i64 x4_1∧Aside0 (laws_toIntS.l0 kq l0 x3_1 x4_1=some r)∧Aside0 (kq≤k)∧Aside0 (Kd.R (Kd.int .i64) 3 w' w.heap.size (fun _=>True) v150 x3_1)∧Aside0 (Below w.heap.size w w'))
   case atStart=>exact ⟨(y149),(0),(by first|rfl|(simp;done)|(simp [*];done)),H',⟨Nat.le_refl _⟩,⟨by (with_reducible repeat (first|apply Kd.R_alloc|apply Kd.R_drewN|apply Kd.R_drew));exact HO151.out⟩,⟨by repeat (first|(with_reducible first|exact HB.out|apply below_alloc|apply pw_below_drewN|apply below_drew1)|exact HB.out)⟩⟩
   case round=>
    clear H'
    try clear c2
    try clear c2b0
    try clear c2b1
    try clear p2
    try clear c3
    try clear c3b0
    try clear c3b1
    obtain ⟨x3_1,x4_1,rfl,HA,HK1,HO_3,HB⟩:=hrel
    cases gk with
    |zero=>exact absurd HA.out (by simp [laws_toIntS.l0])
    |succ k1=>
     have H:=HA.out
     clear HA
     simp only [laws_toIntS.l0] at H
     by_cases c6:x4_1<(l0.length:Int)
     ·rw [if_pos c6] at H
      have c6b0:decide (x4_1<(l0.length:Int))=true:=decide_eq_true c6
      clear c6
      by_cases c7:0≤x4_1
      ·rw [if_pos c7] at H
       have c7b0:decide (0≤x4_1)=true:=decide_eq_true c7
       clear c7
       by_cases c8:x4_1<(x3_1.length:Int)
       ·rw [if_pos c8] at H
        have c8b0:decide (x4_1<(x3_1.length:Int))=true:=decide_eq_true c8
        clear c8
        obtain ⟨y153,hy153⟩:∃ y_:List Int,y_=(x3_1.set (x4_1:Int).toNat (rd l0 x4_1)):=⟨_,rfl⟩
        replace H:(laws_toIntS.l0 k1 l0 y153 (wrap64 (x4_1+1)))=some r:=by first|(rw [hy153];with_reducible exact H)|(have H2_:=(Option.bind_some _ _).symm.trans H;rw [hy153];with_reducible exact H2_)|(have H2_:=(Option.bind_some _ _).symm.trans H;with_reducible exact H2_)|with_reducible exact H|(rw [hy153];exact H)|exact H
        have Ny153:=Aside0.mk hy153
        clear hy153
        have H':=Aside0.mk H
        clear H
        have p152:0≤(x4_1:Int):=of_decide_eq_true (by first|(with_reducible assumption)|assumption)
        have q152:x4_1<(l0.length:Int):=of_decide_eq_true (by first|(with_reducible assumption)|assumption)
        obtain ⟨ad152,e152,hx152_0⟩:=Kd.at_int HR0.out x4_1 p152 q152
        cases e152
        replace hx152_0:=(HB.out.cell (World.block_lt_of_cell? w _ hx152_0)).trans hx152_0
        replace p152:=eq_true p152
        replace q152:=eq_true q152
        have p9:0≤(x4_1:Int):=of_decide_eq_true (by first|(with_reducible assumption)|assumption)
        have q9:(x4_1:Int)<((x3_1.length:Int):Int):=of_decide_eq_true (by first|(with_reducible assumption)|assumption)
        obtain ⟨go9,co9,eo9,gb9,gl9,cl9,HG9⟩:=Kd.R_form HO_3.out (by omega)
        (first|cases eo9|(injection eo9 with ea_ en_ ec_;(first|subst ea_|(injection ea_ with ea_;subst ea_));subst ec_;clear en_))
        have GB9:=Aside0.mk gb9
        have GG9:=Aside0.mk HG9
        clear gb9 gl9 HG9
        obtain ⟨hx9_0,hf9_0⟩:=Kd.R_celln 0 HO_3.out (x4_1:Int) p9 q9
        replace p9:=eq_true p9
        replace q9:=eq_true q9
        have HP10:=Kd.R_putg HO_3.out (x4_1:Int) (rd l0 x4_1)
        go_wp2_with (first|((with_reducible refine gate_store (t:=3) (p:=20) rfl ?_);refine store_event (t:=3) (p:=20) (v:=?vo_w11) (w1:=(wr.setCell ⟨go9,(x4_1:Int).toNat,none⟩ (.int .i64 (rd l0 x4_1)))) ?hg ?ho ?hn ?hr ?_;(case ho=>rfl);(case hg=>rfl);(case hn=>rfl);(case hr=>first|(go_simp;done)|(go_simp;rfl));intro w11 hw;have hg:wr.grownBy w11 (some go9):=(by rw [hw];exact HP10.2);have hp_:Kd.R (Kd.int .i64) 3 w11 w.heap.size (fun _=>True) (.slice (some ⟨go9,0,none⟩) x3_1.length co9) y153:=(by rw [hw,Ny153.out];exact HP10.1);clear HP10;have n0_:=Aside0.mk (hp_);have n1_:=Aside0.mk ((by rw [hw];exact below_set (HB.out) GB9.out:Below w.heap.size w w11));clear HO_3;clear HB;have HO_3:=n0_;have HB:=n1_;clear n0_ n1_;clear hg hw hp_))
        go_roundg k1
        case measure=>have:=HK1.out;omega
        case rel=>exact ⟨(y153),(wrap64 (x4_1+1)),(by first|rfl|(simp;done)|(simp [*];done)),H',⟨by have:=HK1.out;omega⟩,⟨by (with_reducible repeat (first|apply Kd.R_alloc|apply Kd.R_drewN|apply Kd.R_drew));exact HO_3.out⟩,⟨by repeat (first|(with_reducible first|exact HB.out|apply below_alloc|apply pw_below_drewN|apply below_drew1)|exact HB.out)⟩⟩
       ·rw [if_neg c8] at H
        exact absurd H (by simp)
      ·rw [if_neg c7] at H
       exact absurd H (by simp)
     ·rw [if_neg c6] at H
      have c6b0:decide (x4_1<(l0.length:Int))=false:=decide_eq_false c6
      clear c6
      obtain rfl:=Option.some.inj H
      go_wp2
      go_ret
      exact ⟨_,by first|rfl|(simp [errW_none,errW_some]<;>rfl)|(simp [*,errW_none,errW_some]<;>rfl),by (with_reducible repeat (first|apply Kd.R_alloc|apply Kd.R_drewN|apply Kd.R_drew));exact HO_3.out,by repeat (first|(with_reducible first|exact HB.out|apply below_alloc|apply pw_below_drewN|apply below_drew1)|exact HB.out)⟩
  ·rw [if_neg c3] at H
   exact absurd H (by simp)
 ·rw [if_neg c2] at H
  exact absurd H (by simp)
end Go.Proofs.Ytiinihponcojkaa.QFnExactAdvance
