/- Written by a program (wip/tools/own_print.py) out of the walk that the kit's printer made; turned where it fell. -/
-- PRINTED by print.py (a twelfth state) out of the translation. Not trusted: Lean checks it.
import Derived.Test.YtiinihponcojkaaQFnExactShapex0
namespace Go.Proofs.Ytiinihponcojkaa.QFnExactShape
open Go.RowKit Go.Proofs.YtiinihponcojkaaV.PrintWords Go.Proofs.YtiinihponcojkaaV.PrintLast Go.Proofs.YtiinihponcojkaaV.PrintMore
attribute [local go_sem] max2_int min2_int max_two min_two max_three min_three max_four min_four   -- for this text's walks alone
set_option linter.unusedVariables false
set_option linter.unusedSimpArgs false
/-! ### laws_szGlyphS: function 24 -/
def laws_szGlyphS.f (l0:List (S86)) (a1:Int):Option (Int):=if (wrap64 (a1 - (l0.length:Int)))<0 then (some (-1)) else (some (wrap64 (a1 - (l0.length:Int))))
set_option maxHeartbeats 8000000 in
set_option maxRecDepth 100000 in
theorem laws_szGlyphS.calls (A0:Option Addr) (c0:Nat) (l0:List (S86)) (a1:Int) (r:Int) (w:World) (hr0:Kd.C k86 w A0 l0.length l0) (hc0:l0.length≤c0) (h:laws_szGlyphS.f l0 a1=some r) :
  Calls Try.prog 24 #[.slice A0 l0.length c0,.int .i64 a1] w fun e w'=>e=.returned (.int .i64 r)∧Drawn0 w w':=by
 have HR0:=Aside0.mk hr0
 have HC0:=Aside0.mk hc0
 clear hr0 hc0
 have H:(if (wrap64 (a1 - (l0.length:Int)))<0 then (some (-1)) else (some (wrap64 (a1 - (l0.length:Int)))))=some r:=h
 clear h
 by_cases c3:(wrap64 (a1 - (l0.length:Int)))<0
 ·rw [if_pos c3] at H
  have c3b0:decide ((wrap64 (a1 - (l0.length:Int)))<0)=true:=decide_eq_true c3
  clear c3
  obtain rfl:=Option.some.inj H
  go_enter Try.func24,Try.ntmps24
  go_wp2
  go_ret
  exact ⟨by first|rfl|(simp;done)|(simp [*];done),by repeat (first|exact Drawn0.refl _|apply Drawn0.step)⟩
 ·rw [if_neg c3] at H
  have c3b0:decide ((wrap64 (a1 - (l0.length:Int)))<0)=false:=decide_eq_false c3
  clear c3
  obtain rfl:=Option.some.inj H
  go_enter Try.func24,Try.ntmps24
  go_wp2
  go_ret
  exact ⟨by first|rfl|(simp;done)|(simp [*];done),by repeat (first|exact Drawn0.refl _|apply Drawn0.step)⟩
/-! ### laws_szKernS: function 25 -/
def laws_szKernS.f (l0:List (S88)) (a1:Int):Option (Int):=if (wrap64 (a1 - (l0.length:Int)))<0 then (some (-1)) else (some (wrap64 (a1 - (l0.length:Int))))
set_option maxHeartbeats 8000000 in
set_option maxRecDepth 100000 in
theorem laws_szKernS.calls (A0:Option Addr) (c0:Nat) (l0:List (S88)) (a1:Int) (r:Int) (w:World) (hr0:Kd.C k88 w A0 l0.length l0) (hc0:l0.length≤c0) (h:laws_szKernS.f l0 a1=some r) :
  Calls Try.prog 25 #[.slice A0 l0.length c0,.int .i64 a1] w fun e w'=>e=.returned (.int .i64 r)∧Drawn0 w w':=by
 have HR0:=Aside0.mk hr0
 have HC0:=Aside0.mk hc0
 clear hr0 hc0
 have H:(if (wrap64 (a1 - (l0.length:Int)))<0 then (some (-1)) else (some (wrap64 (a1 - (l0.length:Int)))))=some r:=h
 clear h
 by_cases c3:(wrap64 (a1 - (l0.length:Int)))<0
 ·rw [if_pos c3] at H
  have c3b0:decide ((wrap64 (a1 - (l0.length:Int)))<0)=true:=decide_eq_true c3
  clear c3
  obtain rfl:=Option.some.inj H
  go_enter Try.func25,Try.ntmps25
  go_wp2
  go_ret
  exact ⟨by first|rfl|(simp;done)|(simp [*];done),by repeat (first|exact Drawn0.refl _|apply Drawn0.step)⟩
 ·rw [if_neg c3] at H
  have c3b0:decide ((wrap64 (a1 - (l0.length:Int)))<0)=false:=decide_eq_false c3
  clear c3
  obtain rfl:=Option.some.inj H
  go_enter Try.func25,Try.ntmps25
  go_wp2
  go_ret
  exact ⟨by first|rfl|(simp;done)|(simp [*];done),by repeat (first|exact Drawn0.refl _|apply Drawn0.step)⟩
/-! ### laws_szLigS: function 26 -/
def laws_szLigS.f (l0:List (S90)) (a1:Int):Option (Int):=if (wrap64 (a1 - (l0.length:Int)))<0 then (some (-1)) else (some (wrap64 (a1 - (l0.length:Int))))
set_option maxHeartbeats 8000000 in
set_option maxRecDepth 100000 in
theorem laws_szLigS.calls (A0:Option Addr) (c0:Nat) (l0:List (S90)) (a1:Int) (r:Int) (w:World) (hr0:Kd.C k90 w A0 l0.length l0) (hc0:l0.length≤c0) (h:laws_szLigS.f l0 a1=some r) :
  Calls Try.prog 26 #[.slice A0 l0.length c0,.int .i64 a1] w fun e w'=>e=.returned (.int .i64 r)∧Drawn0 w w':=by
 have HR0:=Aside0.mk hr0
 have HC0:=Aside0.mk hc0
 clear hr0 hc0
 have H:(if (wrap64 (a1 - (l0.length:Int)))<0 then (some (-1)) else (some (wrap64 (a1 - (l0.length:Int)))))=some r:=h
 clear h
 by_cases c3:(wrap64 (a1 - (l0.length:Int)))<0
 ·rw [if_pos c3] at H
  have c3b0:decide ((wrap64 (a1 - (l0.length:Int)))<0)=true:=decide_eq_true c3
  clear c3
  obtain rfl:=Option.some.inj H
  go_enter Try.func26,Try.ntmps26
  go_wp2
  go_ret
  exact ⟨by first|rfl|(simp;done)|(simp [*];done),by repeat (first|exact Drawn0.refl _|apply Drawn0.step)⟩
 ·rw [if_neg c3] at H
  have c3b0:decide ((wrap64 (a1 - (l0.length:Int)))<0)=false:=decide_eq_false c3
  clear c3
  obtain rfl:=Option.some.inj H
  go_enter Try.func26,Try.ntmps26
  go_wp2
  go_ret
  exact ⟨by first|rfl|(simp;done)|(simp [*];done),by repeat (first|exact Drawn0.refl _|apply Drawn0.step)⟩
/-! ### laws_szFont: function 6 -/
def laws_szFont.f (a0_0:Int) (a0_1:Int) (a0_2:Int) (a0_3:Int) (l0_4:List (S86)) (l0_5:List (S88)) (l0_6:List (S90)) (a1:Int):Option (Int):=(laws_szGlyphS.f l0_4 a1).bind fun t102=>(if t102<0 then (some (-1)) else ((laws_szKernS.f l0_5 t102).bind fun t103=>(if t103<0 then (some (-1)) else ((laws_szLigS.f l0_6 t103).bind fun t104=>(if t104<0 then (some (-1)) else (some t104))))))
set_option maxHeartbeats 8000000 in
set_option maxRecDepth 100000 in
theorem laws_szFont.calls (a0_0:Int) (a0_1:Int) (a0_2:Int) (a0_3:Int) (A0_4:Option Addr) (c0_4:Nat) (l0_4:List (S86)) (A0_5:Option Addr) (c0_5:Nat) (l0_5:List (S88)) (A0_6:Option Addr) (c0_6:Nat) (l0_6:List (S90)) (a1:Int) (r:Int) (w:World) (hr0_4:Kd.C k86 w A0_4 l0_4.length l0_4) (hc0_4:l0_4.length≤c0_4) (hr0_5:Kd.C k88 w A0_5 l0_5.length l0_5) (hc0_5:l0_5.length≤c0_5) (hr0_6:Kd.C k90 w A0_6 l0_6.length l0_6) (hc0_6:l0_6.length≤c0_6) (h:laws_szFont.f a0_0 a0_1 a0_2 a0_3 l0_4 l0_5 l0_6 a1=some r) :
  Calls Try.prog 6 #[.agg #[.int .i64 a0_0,.int .i64 a0_1,.int .i64 a0_2,.int .i64 a0_3,.slice A0_4 l0_4.length c0_4,.slice A0_5 l0_5.length c0_5,.slice A0_6 l0_6.length c0_6],.int .i64 a1] w fun e w'=>e=.returned (.int .i64 r)∧Below w.heap.size w w':=by
 have hu26:=Try.underlying26
 have HR0_4:=Aside0.mk hr0_4
 have HC0_4:=Aside0.mk hc0_4
 clear hr0_4 hc0_4
 have HR0_5:=Aside0.mk hr0_5
 have HC0_5:=Aside0.mk hc0_5
 clear hr0_5 hc0_5
 have HR0_6:=Aside0.mk hr0_6
 have HC0_6:=Aside0.mk hc0_6
 clear hr0_6 hc0_6
 have HB:=Aside0.mk (Below.refl w.heap.size w)
 have H:((laws_szGlyphS.f l0_4 a1).bind fun t102=>(if t102<0 then (some (-1)) else ((laws_szKernS.f l0_5 t102).bind fun t103=>(if t103<0 then (some (-1)) else ((laws_szLigS.f l0_6 t103).bind fun t104=>(if t104<0 then (some (-1)) else (some t104)))))))=some r:=h
 clear h
 replace H:=Option.bind_eq_some_iff.mp H
 obtain ⟨t102,A30,H⟩:=H
 replace H:(if t102<0 then (some (-1)) else ((laws_szKernS.f l0_5 t102).bind fun t103=>(if t103<0 then (some (-1)) else ((laws_szLigS.f l0_6 t103).bind fun t104=>(if t104<0 then (some (-1)) else (some t104))))))=some r:=H
 have A3:=Aside0.mk A30
 clear A30
 by_cases c4:t102<0
 ·rw [if_pos c4] at H
  have c4b0:decide (t102<0)=true:=decide_eq_true c4
  clear c4
  obtain rfl:=Option.some.inj H
  go_enter Try.func6,Try.ntmps6
  go_wp2_with (first|((with_reducible refine gate_dst (N:=2) rfl ?_);refine box_event ?hg (N:=2) ?hd (cs:=#[.int .i64 a0_0,.int .i64 a0_1,.int .i64 a0_2,.int .i64 a0_3,.slice A0_4 l0_4.length c0_4,.slice A0_5 l0_5.length c0_5,.slice A0_6 l0_6.length c0_6]) (t:=26) ?hr ?_;(case hd=>rfl);(case hg=>rfl);(case hr=>first|(go_simp;done)|(go_simp;rfl));intro gb101 hg w5 hbox hb;have n0_:=Aside0.mk (below_step (by repeat (first|(with_reducible first|exact HB.out|apply below_alloc|apply pw_below_drewN|apply below_drew1)|exact HB.out)) hb);have n1_:=Aside0.mk (hbox);have n2_:=Aside0.mk ((by rw [hg];exact (below_size (by repeat (first|(with_reducible first|exact HB.out|apply below_alloc|apply pw_below_drewN|apply below_drew1)|exact HB.out))):w.heap.size≤gb101));have n3_:=Aside0.mk ((by rw [hg];exact (below_size (by repeat (first|(with_reducible first|exact HB.out|apply below_alloc|apply pw_below_drewN|apply below_drew1)|exact HB.out))):w.heap.size≤gb101));clear HB;have HB:=n0_;have BK101:=n1_;have GW101:=n2_;have GE101:=n3_;clear n0_ n1_ n2_ n3_;clear hb hbox hg;have hcz6_0:w5.cell? ⟨gb101,0,none⟩=some (.int .i64 a0_0):=(blk_cell BK101.out 0).trans rfl;have hcz6_1:w5.cell? ⟨gb101,1,none⟩=some (.int .i64 a0_1):=(blk_cell BK101.out 1).trans rfl;have hcz6_2:w5.cell? ⟨gb101,2,none⟩=some (.int .i64 a0_2):=(blk_cell BK101.out 2).trans rfl;have hcz6_3:w5.cell? ⟨gb101,3,none⟩=some (.int .i64 a0_3):=(blk_cell BK101.out 3).trans rfl;have hcz6_4:w5.cell? ⟨gb101,4,none⟩=some (.slice A0_4 l0_4.length c0_4):=(blk_cell BK101.out 4).trans rfl;have hcz6_5:w5.cell? ⟨gb101,5,none⟩=some (.slice A0_5 l0_5.length c0_5):=(blk_cell BK101.out 5).trans rfl;have hcz6_6:w5.cell? ⟨gb101,6,none⟩=some (.slice A0_6 l0_6.length c0_6):=(blk_cell BK101.out 6).trans rfl;have hfz6_0:=blk_frozen BK101.out 0;have hfz6_1:=blk_frozen BK101.out 1;have hfz6_2:=blk_frozen BK101.out 2;have hfz6_3:=blk_frozen BK101.out 3;have hfz6_4:=blk_frozen BK101.out 4;have hfz6_5:=blk_frozen BK101.out 5;have hfz6_6:=blk_frozen BK101.out 6)|((with_reducible refine gate_callee (f:=24) rfl ?_);refine goesL_ (some 8) rfl rfl Try.func24 (by kernel_rfl) rfl #[.slice A0_4 l0_4.length c0_4,.int .i64 a1] rfl (by (try simp only [List.map_toArray,List.map_cons,List.map_nil]);first|done|rfl|(simp only [List.length_drop,List.length_take];rfl)) ?_;(with_reducible refine (laws_szGlyphS.calls _ _ l0_4 a1 t102 _ ?side1 ?side2 A3.out).mono ?_);(case side1=>repeat (first|exact (Kd.C_below HR0_4.out HB.out)|(with_reducible refine Kd.C_alloc ?_ _)|(with_reducible refine Kd.C_drewN ?_ _)|(with_reducible refine Kd.C_drew ?_)));(case side2=>exact HC0_4.out);rintro e w' ⟨rfl,⟨nd,rfl⟩⟩;refine ⟨_,rfl,?_⟩))
  go_ret
  exact ⟨by first|rfl|(simp [errW_none,errW_some]<;>rfl)|(simp [*,errW_none,errW_some]<;>rfl),by repeat (first|(with_reducible first|exact HB.out|apply below_alloc|apply pw_below_drewN|apply below_drew1|refine below_set ?_ GE101.out)|exact HB.out)⟩
 ·rw [if_neg c4] at H
  have c4b0:decide (t102<0)=false:=decide_eq_false c4
  clear c4
  replace H:=Option.bind_eq_some_iff.mp H
  obtain ⟨t103,A70,H⟩:=H
  replace H:(if t103<0 then (some (-1)) else ((laws_szLigS.f l0_6 t103).bind fun t104=>(if t104<0 then (some (-1)) else (some t104))))=some r:=H
  have A7:=Aside0.mk A70
  clear A70
  by_cases c8:t103<0
  ·rw [if_pos c8] at H
   have c8b0:decide (t103<0)=true:=decide_eq_true c8
   clear c8
   obtain rfl:=Option.some.inj H
   go_enter Try.func6,Try.ntmps6
   go_wp2_with (first|((with_reducible refine gate_dst (N:=2) rfl ?_);refine box_event ?hg (N:=2) ?hd (cs:=#[.int .i64 a0_0,.int .i64 a0_1,.int .i64 a0_2,.int .i64 a0_3,.slice A0_4 l0_4.length c0_4,.slice A0_5 l0_5.length c0_5,.slice A0_6 l0_6.length c0_6]) (t:=26) ?hr ?_;(case hd=>rfl);(case hg=>rfl);(case hr=>first|(go_simp;done)|(go_simp;rfl));intro gb101 hg w9 hbox hb;have n0_:=Aside0.mk (below_step (by repeat (first|(with_reducible first|exact HB.out|apply below_alloc|apply pw_below_drewN|apply below_drew1)|exact HB.out)) hb);have n1_:=Aside0.mk (hbox);have n2_:=Aside0.mk ((by rw [hg];exact (below_size (by repeat (first|(with_reducible first|exact HB.out|apply below_alloc|apply pw_below_drewN|apply below_drew1)|exact HB.out))):w.heap.size≤gb101));have n3_:=Aside0.mk ((by rw [hg];exact (below_size (by repeat (first|(with_reducible first|exact HB.out|apply below_alloc|apply pw_below_drewN|apply below_drew1)|exact HB.out))):w.heap.size≤gb101));clear HB;have HB:=n0_;have BK101:=n1_;have GW101:=n2_;have GE101:=n3_;clear n0_ n1_ n2_ n3_;clear hb hbox hg;have hcz10_0:w9.cell? ⟨gb101,0,none⟩=some (.int .i64 a0_0):=(blk_cell BK101.out 0).trans rfl;have hcz10_1:w9.cell? ⟨gb101,1,none⟩=some (.int .i64 a0_1):=(blk_cell BK101.out 1).trans rfl;have hcz10_2:w9.cell? ⟨gb101,2,none⟩=some (.int .i64 a0_2):=(blk_cell BK101.out 2).trans rfl;have hcz10_3:w9.cell? ⟨gb101,3,none⟩=some (.int .i64 a0_3):=(blk_cell BK101.out 3).trans rfl;have hcz10_4:w9.cell? ⟨gb101,4,none⟩=some (.slice A0_4 l0_4.length c0_4):=(blk_cell BK101.out 4).trans rfl;have hcz10_5:w9.cell? ⟨gb101,5,none⟩=some (.slice A0_5 l0_5.length c0_5):=(blk_cell BK101.out 5).trans rfl;have hcz10_6:w9.cell? ⟨gb101,6,none⟩=some (.slice A0_6 l0_6.length c0_6):=(blk_cell BK101.out 6).trans rfl;have hfz10_0:=blk_frozen BK101.out 0;have hfz10_1:=blk_frozen BK101.out 1;have hfz10_2:=blk_frozen BK101.out 2;have hfz10_3:=blk_frozen BK101.out 3;have hfz10_4:=blk_frozen BK101.out 4;have hfz10_5:=blk_frozen BK101.out 5;have hfz10_6:=blk_frozen BK101.out 6)|((with_reducible refine gate_callee (f:=24) rfl ?_);refine goesL_ (some 8) rfl rfl Try.func24 (by kernel_rfl) rfl #[.slice A0_4 l0_4.length c0_4,.int .i64 a1] rfl (by (try simp only [List.map_toArray,List.map_cons,List.map_nil]);first|done|rfl|(simp only [List.length_drop,List.length_take];rfl)) ?_;(with_reducible refine (laws_szGlyphS.calls _ _ l0_4 a1 t102 _ ?side1 ?side2 A3.out).mono ?_);(case side1=>repeat (first|exact (Kd.C_below HR0_4.out HB.out)|(with_reducible refine Kd.C_alloc ?_ _)|(with_reducible refine Kd.C_drewN ?_ _)|(with_reducible refine Kd.C_drew ?_)));(case side2=>exact HC0_4.out);rintro e w' ⟨rfl,⟨nd,rfl⟩⟩;refine ⟨_,rfl,?_⟩)|((with_reducible refine gate_callee (f:=25) rfl ?_);refine goesL_ (some 14) rfl rfl Try.func25 (by kernel_rfl) rfl #[.slice A0_5 l0_5.length c0_5,.int .i64 t102] rfl (by (try simp only [List.map_toArray,List.map_cons,List.map_nil]);first|done|rfl|(simp only [List.length_drop,List.length_take];rfl)) ?_;(with_reducible refine (laws_szKernS.calls _ _ l0_5 t102 t103 _ ?side1 ?side2 A7.out).mono ?_);(case side1=>repeat (first|exact (Kd.C_below HR0_5.out (by repeat (first|(with_reducible first|exact HB.out|apply below_alloc|apply pw_below_drewN|apply below_drew1|refine below_set ?_ GE101.out)|exact HB.out)))|(with_reducible refine Kd.C_alloc ?_ _)|(with_reducible refine Kd.C_drewN ?_ _)|(with_reducible refine Kd.C_drew ?_)));(case side2=>exact HC0_5.out);rintro e w' ⟨rfl,⟨nd,rfl⟩⟩;refine ⟨_,rfl,?_⟩))
   go_ret
   exact ⟨by first|rfl|(simp [errW_none,errW_some]<;>rfl)|(simp [*,errW_none,errW_some]<;>rfl),by repeat (first|(with_reducible first|exact HB.out|apply below_alloc|apply pw_below_drewN|apply below_drew1|refine below_set ?_ GE101.out)|exact HB.out)⟩
  ·rw [if_neg c8] at H
   have c8b0:decide (t103<0)=false:=decide_eq_false c8
   clear c8
   replace H:=Option.bind_eq_some_iff.mp H
   obtain ⟨t104,A110,H⟩:=H
   replace H:(if t104<0 then (some (-1)) else (some t104))=some r:=H
   have A11:=Aside0.mk A110
   clear A110
   by_cases c12:t104<0
   ·rw [if_pos c12] at H
    have c12b0:decide (t104<0)=true:=decide_eq_true c12
    clear c12
    obtain rfl:=Option.some.inj H
    go_enter Try.func6,Try.ntmps6
    go_wp2_with (first|((with_reducible refine gate_dst (N:=2) rfl ?_);refine box_event ?hg (N:=2) ?hd (cs:=#[.int .i64 a0_0,.int .i64 a0_1,.int .i64 a0_2,.int .i64 a0_3,.slice A0_4 l0_4.length c0_4,.slice A0_5 l0_5.length c0_5,.slice A0_6 l0_6.length c0_6]) (t:=26) ?hr ?_;(case hd=>rfl);(case hg=>rfl);(case hr=>first|(go_simp;done)|(go_simp;rfl));intro gb101 hg w13 hbox hb;have n0_:=Aside0.mk (below_step (by repeat (first|(with_reducible first|exact HB.out|apply below_alloc|apply pw_below_drewN|apply below_drew1)|exact HB.out)) hb);have n1_:=Aside0.mk (hbox);have n2_:=Aside0.mk ((by rw [hg];exact (below_size (by repeat (first|(with_reducible first|exact HB.out|apply below_alloc|apply pw_below_drewN|apply below_drew1)|exact HB.out))):w.heap.size≤gb101));have n3_:=Aside0.mk ((by rw [hg];exact (below_size (by repeat (first|(with_reducible first|exact HB.out|apply below_alloc|apply pw_below_drewN|apply below_drew1)|exact HB.out))):w.heap.size≤gb101));clear HB;have HB:=n0_;have BK101:=n1_;have GW101:=n2_;have GE101:=n3_;clear n0_ n1_ n2_ n3_;clear hb hbox hg;have hcz14_0:w13.cell? ⟨gb101,0,none⟩=some (.int .i64 a0_0):=(blk_cell BK101.out 0).trans rfl;have hcz14_1:w13.cell? ⟨gb101,1,none⟩=some (.int .i64 a0_1):=(blk_cell BK101.out 1).trans rfl;have hcz14_2:w13.cell? ⟨gb101,2,none⟩=some (.int .i64 a0_2):=(blk_cell BK101.out 2).trans rfl;have hcz14_3:w13.cell? ⟨gb101,3,none⟩=some (.int .i64 a0_3):=(blk_cell BK101.out 3).trans rfl;have hcz14_4:w13.cell? ⟨gb101,4,none⟩=some (.slice A0_4 l0_4.length c0_4):=(blk_cell BK101.out 4).trans rfl;have hcz14_5:w13.cell? ⟨gb101,5,none⟩=some (.slice A0_5 l0_5.length c0_5):=(blk_cell BK101.out 5).trans rfl;have hcz14_6:w13.cell? ⟨gb101,6,none⟩=some (.slice A0_6 l0_6.length c0_6):=(blk_cell BK101.out 6).trans rfl;have hfz14_0:=blk_frozen BK101.out 0;have hfz14_1:=blk_frozen BK101.out 1;have hfz14_2:=blk_frozen BK101.out 2;have hfz14_3:=blk_frozen BK101.out 3;have hfz14_4:=blk_frozen BK101.out 4;have hfz14_5:=blk_frozen BK101.out 5;have hfz14_6:=blk_frozen BK101.out 6)|((with_reducible refine gate_callee (f:=24) rfl ?_);refine goesL_ (some 8) rfl rfl Try.func24 (by kernel_rfl) rfl #[.slice A0_4 l0_4.length c0_4,.int .i64 a1] rfl (by (try simp only [List.map_toArray,List.map_cons,List.map_nil]);first|done|rfl|(simp only [List.length_drop,List.length_take];rfl)) ?_;(with_reducible refine (laws_szGlyphS.calls _ _ l0_4 a1 t102 _ ?side1 ?side2 A3.out).mono ?_);(case side1=>repeat (first|exact (Kd.C_below HR0_4.out HB.out)|(with_reducible refine Kd.C_alloc ?_ _)|(with_reducible refine Kd.C_drewN ?_ _)|(with_reducible refine Kd.C_drew ?_)));(case side2=>exact HC0_4.out);rintro e w' ⟨rfl,⟨nd,rfl⟩⟩;refine ⟨_,rfl,?_⟩)|((with_reducible refine gate_callee (f:=25) rfl ?_);refine goesL_ (some 14) rfl rfl Try.func25 (by kernel_rfl) rfl #[.slice A0_5 l0_5.length c0_5,.int .i64 t102] rfl (by (try simp only [List.map_toArray,List.map_cons,List.map_nil]);first|done|rfl|(simp only [List.length_drop,List.length_take];rfl)) ?_;(with_reducible refine (laws_szKernS.calls _ _ l0_5 t102 t103 _ ?side1 ?side2 A7.out).mono ?_);(case side1=>repeat (first|exact (Kd.C_below HR0_5.out (by repeat (first|(with_reducible first|exact HB.out|apply below_alloc|apply pw_below_drewN|apply below_drew1|refine below_set ?_ GE101.out)|exact HB.out)))|(with_reducible refine Kd.C_alloc ?_ _)|(with_reducible refine Kd.C_drewN ?_ _)|(with_reducible refine Kd.C_drew ?_)));(case side2=>exact HC0_5.out);rintro e w' ⟨rfl,⟨nd,rfl⟩⟩;refine ⟨_,rfl,?_⟩)|((with_reducible refine gate_callee (f:=26) rfl ?_);refine goesL_ (some 20) rfl rfl Try.func26 (by kernel_rfl) rfl #[.slice A0_6 l0_6.length c0_6,.int .i64 t103] rfl (by (try simp only [List.map_toArray,List.map_cons,List.map_nil]);first|done|rfl|(simp only [List.length_drop,List.length_take];rfl)) ?_;(with_reducible refine (laws_szLigS.calls _ _ l0_6 t103 t104 _ ?side1 ?side2 A11.out).mono ?_);(case side1=>repeat (first|exact (Kd.C_below HR0_6.out (by repeat (first|(with_reducible first|exact HB.out|apply below_alloc|apply pw_below_drewN|apply below_drew1|refine below_set ?_ GE101.out)|exact HB.out)))|(with_reducible refine Kd.C_alloc ?_ _)|(with_reducible refine Kd.C_drewN ?_ _)|(with_reducible refine Kd.C_drew ?_)));(case side2=>exact HC0_6.out);rintro e w' ⟨rfl,⟨nd,rfl⟩⟩;refine ⟨_,rfl,?_⟩))
    go_ret
    exact ⟨by first|rfl|(simp [errW_none,errW_some]<;>rfl)|(simp [*,errW_none,errW_some]<;>rfl),by repeat (first|(with_reducible first|exact HB.out|apply below_alloc|apply pw_below_drewN|apply below_drew1|refine below_set ?_ GE101.out)|exact HB.out)⟩
   ·rw [if_neg c12] at H
    have c12b0:decide (t104<0)=false:=decide_eq_false c12
    clear c12
    obtain rfl:=Option.some.inj H
    go_enter Try.func6,Try.ntmps6
    go_wp2_with (first|((with_reducible refine gate_dst (N:=2) rfl ?_);refine box_event ?hg (N:=2) ?hd (cs:=#[.int .i64 a0_0,.int .i64 a0_1,.int .i64 a0_2,.int .i64 a0_3,.slice A0_4 l0_4.length c0_4,.slice A0_5 l0_5.length c0_5,.slice A0_6 l0_6.length c0_6]) (t:=26) ?hr ?_;(case hd=>rfl);(case hg=>rfl);(case hr=>first|(go_simp;done)|(go_simp;rfl));intro gb101 hg w15 hbox hb;have n0_:=Aside0.mk (below_step (by repeat (first|(with_reducible first|exact HB.out|apply below_alloc|apply pw_below_drewN|apply below_drew1)|exact HB.out)) hb);have n1_:=Aside0.mk (hbox);have n2_:=Aside0.mk ((by rw [hg];exact (below_size (by repeat (first|(with_reducible first|exact HB.out|apply below_alloc|apply pw_below_drewN|apply below_drew1)|exact HB.out))):w.heap.size≤gb101));have n3_:=Aside0.mk ((by rw [hg];exact (below_size (by repeat (first|(with_reducible first|exact HB.out|apply below_alloc|apply pw_below_drewN|apply below_drew1)|exact HB.out))):w.heap.size≤gb101));clear HB;have HB:=n0_;have BK101:=n1_;have GW101:=n2_;have GE101:=n3_;clear n0_ n1_ n2_ n3_;clear hb hbox hg;have hcz16_0:w15.cell? ⟨gb101,0,none⟩=some (.int .i64 a0_0):=(blk_cell BK101.out 0).trans rfl;have hcz16_1:w15.cell? ⟨gb101,1,none⟩=some (.int .i64 a0_1):=(blk_cell BK101.out 1).trans rfl;have hcz16_2:w15.cell? ⟨gb101,2,none⟩=some (.int .i64 a0_2):=(blk_cell BK101.out 2).trans rfl;have hcz16_3:w15.cell? ⟨gb101,3,none⟩=some (.int .i64 a0_3):=(blk_cell BK101.out 3).trans rfl;have hcz16_4:w15.cell? ⟨gb101,4,none⟩=some (.slice A0_4 l0_4.length c0_4):=(blk_cell BK101.out 4).trans rfl;have hcz16_5:w15.cell? ⟨gb101,5,none⟩=some (.slice A0_5 l0_5.length c0_5):=(blk_cell BK101.out 5).trans rfl;have hcz16_6:w15.cell? ⟨gb101,6,none⟩=some (.slice A0_6 l0_6.length c0_6):=(blk_cell BK101.out 6).trans rfl;have hfz16_0:=blk_frozen BK101.out 0;have hfz16_1:=blk_frozen BK101.out 1;have hfz16_2:=blk_frozen BK101.out 2;have hfz16_3:=blk_frozen BK101.out 3;have hfz16_4:=blk_frozen BK101.out 4;have hfz16_5:=blk_frozen BK101.out 5;have hfz16_6:=blk_frozen BK101.out 6)|((with_reducible refine gate_callee (f:=24) rfl ?_);refine goesL_ (some 8) rfl rfl Try.func24 (by kernel_rfl) rfl #[.slice A0_4 l0_4.length c0_4,.int .i64 a1] rfl (by (try simp only [List.map_toArray,List.map_cons,List.map_nil]);first|done|rfl|(simp only [List.length_drop,List.length_take];rfl)) ?_;(with_reducible refine (laws_szGlyphS.calls _ _ l0_4 a1 t102 _ ?side1 ?side2 A3.out).mono ?_);(case side1=>repeat (first|exact (Kd.C_below HR0_4.out HB.out)|(with_reducible refine Kd.C_alloc ?_ _)|(with_reducible refine Kd.C_drewN ?_ _)|(with_reducible refine Kd.C_drew ?_)));(case side2=>exact HC0_4.out);rintro e w' ⟨rfl,⟨nd,rfl⟩⟩;refine ⟨_,rfl,?_⟩)|((with_reducible refine gate_callee (f:=25) rfl ?_);refine goesL_ (some 14) rfl rfl Try.func25 (by kernel_rfl) rfl #[.slice A0_5 l0_5.length c0_5,.int .i64 t102] rfl (by (try simp only [List.map_toArray,List.map_cons,List.map_nil]);first|done|rfl|(simp only [List.length_drop,List.length_take];rfl)) ?_;(with_reducible refine (laws_szKernS.calls _ _ l0_5 t102 t103 _ ?side1 ?side2 A7.out).mono ?_);(case side1=>repeat (first|exact (Kd.C_below HR0_5.out (by repeat (first|(with_reducible first|exact HB.out|apply below_alloc|apply pw_below_drewN|apply below_drew1|refine below_set ?_ GE101.out)|exact HB.out)))|(with_reducible refine Kd.C_alloc ?_ _)|(with_reducible refine Kd.C_drewN ?_ _)|(with_reducible refine Kd.C_drew ?_)));(case side2=>exact HC0_5.out);rintro e w' ⟨rfl,⟨nd,rfl⟩⟩;refine ⟨_,rfl,?_⟩)|((with_reducible refine gate_callee (f:=26) rfl ?_);refine goesL_ (some 20) rfl rfl Try.func26 (by kernel_rfl) rfl #[.slice A0_6 l0_6.length c0_6,.int .i64 t103] rfl (by (try simp only [List.map_toArray,List.map_cons,List.map_nil]);first|done|rfl|(simp only [List.length_drop,List.length_take];rfl)) ?_;(with_reducible refine (laws_szLigS.calls _ _ l0_6 t103 t104 _ ?side1 ?side2 A11.out).mono ?_);(case side1=>repeat (first|exact (Kd.C_below HR0_6.out (by repeat (first|(with_reducible first|exact HB.out|apply below_alloc|apply pw_below_drewN|apply below_drew1|refine below_set ?_ GE101.out)|exact HB.out)))|(with_reducible refine Kd.C_alloc ?_ _)|(with_reducible refine Kd.C_drewN ?_ _)|(with_reducible refine Kd.C_drew ?_)));(case side2=>exact HC0_6.out);rintro e w' ⟨rfl,⟨nd,rfl⟩⟩;refine ⟨_,rfl,?_⟩))
    go_ret
    exact ⟨by first|rfl|(simp [errW_none,errW_some]<;>rfl)|(simp [*,errW_none,errW_some]<;>rfl),by repeat (first|(with_reducible first|exact HB.out|apply below_alloc|apply pw_below_drewN|apply below_drew1|refine below_set ?_ GE101.out)|exact HB.out)⟩
/-! ### spec_l12In: function 52 -/
def spec_l12In.f (a0:Int) (a1:Int) (a2:Int):Option (Bool):=if a0≥a1 then (some (decide (a0≤a2))) else (some false)
set_option maxHeartbeats 8000000 in
set_option maxRecDepth 100000 in
theorem spec_l12In.calls (a0:Int) (a1:Int) (a2:Int) (r:Bool) (w:World) (h:spec_l12In.f a0 a1 a2=some r) :
  Calls Try.prog 52 #[.int .i64 a0,.int .i64 a1,.int .i64 a2] w fun e w'=>e=.returned (.bool r)∧Drawn0 w w':=by
 have H:(if a0≥a1 then (some (decide (a0≤a2))) else (some false))=some r:=h
 clear h
 by_cases c4:a0≥a1
 ·rw [if_pos c4] at H
  have c4b0:decide (a1≤a0)=true:=decide_eq_true c4
  clear c4
  obtain rfl:=Option.some.inj H
  go_enter Try.func52,Try.ntmps52
  go_wp2
  go_ret
  exact ⟨by first|rfl|(simp;done)|(simp [*];done),by repeat (first|exact Drawn0.refl _|apply Drawn0.step)⟩
 ·rw [if_neg c4] at H
  have c4b0:decide (a1≤a0)=false:=decide_eq_false c4
  clear c4
  obtain rfl:=Option.some.inj H
  go_enter Try.func52,Try.ntmps52
  go_wp2
  go_ret
  exact ⟨by first|rfl|(simp;done)|(simp [*];done),by repeat (first|exact Drawn0.refl _|apply Drawn0.step)⟩
/-! ### spec_l12Less: function 53 -/
def spec_l12Less.f (a0:Int) (a1:Int) (a2:Int) (a3:Int):Option (Bool):=if a0<a2 then (some true) else (if a0=a2 then (some (decide (a1<a3))) else (some false))
set_option maxHeartbeats 8000000 in
set_option maxRecDepth 100000 in
theorem spec_l12Less.calls (a0:Int) (a1:Int) (a2:Int) (a3:Int) (r:Bool) (w:World) (h:spec_l12Less.f a0 a1 a2 a3=some r) :
  Calls Try.prog 53 #[.int .i64 a0,.int .i64 a1,.int .i64 a2,.int .i64 a3] w fun e w'=>e=.returned (.bool r)∧Drawn0 w w':=by
 have H:(if a0<a2 then (some true) else (if a0=a2 then (some (decide (a1<a3))) else (some false)))=some r:=h
 clear h
 by_cases c5:a0<a2
 ·rw [if_pos c5] at H
  have c5b0:decide (a0<a2)=true:=decide_eq_true c5
  clear c5
  obtain rfl:=Option.some.inj H
  go_enter Try.func53,Try.ntmps53
  go_wp2
  go_ret
  exact ⟨by first|rfl|(simp;done)|(simp [*];done),by repeat (first|exact Drawn0.refl _|apply Drawn0.step)⟩
 ·rw [if_neg c5] at H
  have c5b0:decide (a0<a2)=false:=decide_eq_false c5
  clear c5
  by_cases c6:a0=a2
  ·rw [if_pos c6] at H
   have c6b0:(a0==a2)=true:=beq_iff_eq.mpr c6
   have c6b1:(a0 != a2)=false:=bne_eq_false_iff_eq.mpr c6
   clear c6
   obtain rfl:=Option.some.inj H
   go_enter Try.func53,Try.ntmps53
   go_wp2
   go_ret
   exact ⟨by first|rfl|(simp;done)|(simp [*];done),by repeat (first|exact Drawn0.refl _|apply Drawn0.step)⟩
  ·rw [if_neg c6] at H
   have c6b0:(a0==a2)=false:=beq_eq_false_iff_ne.mpr c6
   have c6b1:(a0 != a2)=true:=bne_iff_ne.mpr c6
   obtain rfl:=Option.some.inj H
   go_enter Try.func53,Try.ntmps53
   go_wp2
   go_ret
   exact ⟨by first|rfl|(simp;done)|(simp [*];done),by repeat (first|exact Drawn0.refl _|apply Drawn0.step)⟩
end Go.Proofs.Ytiinihponcojkaa.QFnExactShape
