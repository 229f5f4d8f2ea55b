/- Written by a program (wip/tools/own_print.py) out of the walk that the kit's printer made; turned where it fell. -/
-- PRINTED by print.py (a twelfth state) out of the translation. Not trusted: Lean checks it.
import Derived.Test.YtjojmfhgfeflnaaGreatDoorInnerX
import Derived.Test.YtjojmfhgfeflnaaGreatDoorQFnExactInnerx0
import Derived.Test.YtjojmfhgfeflnaaGreatDoorQFnExactInnerx1
import Derived.Test.YtjojmfhgfeflnaaGreatDoorQFnExactInnerx3
import Derived.Test.YtjojmfhgfeflnaaGreatDoorQFnExactInnerx7
import Derived.Test.YtjojmfhgfeflnaaGreatDoorQFnExactInnerx10
namespace Go.Proofs.YtjojmfhgfeflnaaGreatDoor.QFnExactInner
open Go.RowKit Go.Proofs.YtjojmfhgfeflnaaGreatDoorV.PrintWords Go.Proofs.YtjojmfhgfeflnaaGreatDoorV.PrintLast Go.Proofs.YtjojmfhgfeflnaaGreatDoorV.PrintMore
attribute [local go_sem] max2_int min2_int max_two min_two max_three min_three max_four min_four   -- for this text's walks alone
set_option linter.unusedVariables false
set_option linter.unusedSimpArgs false
/-! ### laws_FnExactInner: function 4 -/
noncomputable def laws_FnExactInner.f (k:Nat) (l0_0:List (S63)) (a1:Int):Option (Bool):=(laws_szTree.f k l0_0 1048576).bind fun t302=>(if t302<0 then (some true) else ((laws_toTree.f k l0_0).bind fun t303=>((spec_Inner.f k t303 a1).bind fun t306=>((laws_toTree.f k l0_0).bind fun t307=>((impl_Inner.f k t307 a1).bind fun t311=>(if t311.toList=t306.toList then ((laws_toTree.f k l0_0).bind fun t312=>((laws_eqTree.f k t307 t312).bind fun t315=>(if t315=true then (some true) else (none)))) else (none)))))))
theorem laws_FnExactInner.mono:∀ a0 a1 k,LeO (laws_FnExactInner.f k a0 a1) (laws_FnExactInner.f (k+1) a0 a1):=by
 intro a0 a1 k
 unfold laws_FnExactInner.f
 repeat' first
   |(with_reducible exact impl_Inner.mono _ _ _)
   |(with_reducible exact laws_eqTree.mono _ _ _)
   |(with_reducible exact laws_szTree.mono _ _ _)
   |(with_reducible exact laws_toTree.mono _ _)
   |(with_reducible exact spec_Inner.mono _ _ _)
   |(with_reducible exact LeO.refl _)
   |(with_reducible exact LeO.none _)
   |(with_reducible refine LeO.ite ?_ ?_)
   |(with_reducible refine LeO.bind ?_ (fun _=>?_))
   |exact impl_Inner.mono _ _ _
   |exact laws_eqTree.mono _ _ _
   |exact laws_szTree.mono _ _ _
   |exact laws_toTree.mono _ _
   |exact spec_Inner.mono _ _ _
   |exact LeO.none _
   |refine LeO.ite ?_ ?_
   |refine LeO.bind ?_ (fun _=>?_)
set_option maxHeartbeats 8000000 in
set_option maxRecDepth 100000 in
theorem laws_FnExactInner.calls (k:Nat) (A0_0:Option Addr) (c0_0:Nat) (l0_0:List (S63)) (a1:Int) (r:Bool) (w:World) (hr0_0:Kd.C k63 w A0_0 l0_0.length l0_0) (hc0_0:l0_0.length≤c0_0) (hg:STab w) (h:laws_FnExactInner.f k l0_0 a1=some r) :
  Calls Tryz.prog 4 #[.agg #[.slice A0_0 l0_0.length c0_0],.int .i64 a1] w fun e w'=>e=.returned (.bool r)∧Below w.heap.size w w':=by
 have hu24:=Tryz.underlying24
 have hu29:=Tryz.underlying29
 have HR0_0:=Aside0.mk hr0_0
 have HC0_0:=Aside0.mk hc0_0
 have HGT:=Aside0.mk hg
 clear hr0_0 hc0_0 hg
 have HB:=Aside0.mk (Below.refl w.heap.size w)
 have H:((laws_szTree.f k l0_0 1048576).bind fun t302=>(if t302<0 then (some true) else ((laws_toTree.f k l0_0).bind fun t303=>((spec_Inner.f k t303 a1).bind fun t306=>((laws_toTree.f k l0_0).bind fun t307=>((impl_Inner.f k t307 a1).bind fun t311=>(if t311.toList=t306.toList then ((laws_toTree.f k l0_0).bind fun t312=>((laws_eqTree.f k t307 t312).bind fun t315=>(if t315=true then (some true) else (none)))) else (none))))))))=some r:=h
 clear h
 replace H:=Option.bind_eq_some_iff.mp H
 obtain ⟨t302,A30,H⟩:=H
 replace H:(if t302<0 then (some true) else ((laws_toTree.f k l0_0).bind fun t303=>((spec_Inner.f k t303 a1).bind fun t306=>((laws_toTree.f k l0_0).bind fun t307=>((impl_Inner.f k t307 a1).bind fun t311=>(if t311.toList=t306.toList then ((laws_toTree.f k l0_0).bind fun t312=>((laws_eqTree.f k t307 t312).bind fun t315=>(if t315=true then (some true) else (none)))) else (none)))))))=some r:=H
 have A3:=Aside0.mk A30
 clear A30
 by_cases c4:t302<0
 ·rw [if_pos c4] at H
  have c4b0:decide (t302<0)=true:=decide_eq_true c4
  clear c4
  obtain rfl:=Option.some.inj H
  go_enter Tryz.func4,Tryz.ntmps4
  go_wp2_with (first|((with_reducible refine gate_dst (N:=2) rfl ?_);refine box_event ?hg (N:=2) ?hd (cs:=#[.slice A0_0 l0_0.length c0_0]) (t:=24) ?hr ?_;(case hd=>rfl);(case hg=>rfl);(case hr=>first|(go_simp;done)|(go_simp;rfl));intro gb301 hg w5 hbox hb;have n0_:=Aside0.mk (below_step (by repeat (first|(with_reducible first|exact HB.out|apply below_alloc|apply pw_below_drewN|apply below_drew1)|exact HB.out)) hb);have n1_:=Aside0.mk (hbox);have n2_:=Aside0.mk ((by rw [hg];exact (below_size (by repeat (first|(with_reducible first|exact HB.out|apply below_alloc|apply pw_below_drewN|apply below_drew1)|exact HB.out))):w.heap.size≤gb301));have n3_:=Aside0.mk ((by rw [hg];exact (below_size (by repeat (first|(with_reducible first|exact HB.out|apply below_alloc|apply pw_below_drewN|apply below_drew1)|exact HB.out))):w.heap.size≤gb301));clear HB;have HB:=n0_;have BK301:=n1_;have GW301:=n2_;have GE301:=n3_;clear n0_ n1_ n2_ n3_;clear hb hbox hg;have hcz6_0:w5.cell? ⟨gb301,0,none⟩=some (.slice A0_0 l0_0.length c0_0):=(blk_cell BK301.out 0).trans rfl;have hfz6_0:=blk_frozen BK301.out 0)|((with_reducible refine gate_callee (f:=5) rfl ?_);refine goesL_ (some 11) rfl rfl Tryz.func5 (by kernel_rfl) rfl #[.agg #[.slice A0_0 l0_0.length c0_0],.int .i64 1048576] rfl (by (try simp only [List.map_toArray,List.map_cons,List.map_nil]);first|done|rfl|(simp only [List.length_drop,List.length_take];rfl)) ?_;(with_reducible refine (laws_szTree.calls k _ _ l0_0 1048576 t302 _ ?side1 ?side2 A3.out).mono ?_);(case side1=>repeat (first|exact (Kd.C_below HR0_0.out HB.out)|(with_reducible refine Kd.C_alloc ?_ _)|(with_reducible refine Kd.C_drewN ?_ _)|(with_reducible refine Kd.C_drew ?_)));(case side2=>exact HC0_0.out);rintro e w7 ⟨rfl,hb⟩;refine ⟨_,rfl,?_⟩;have n0_:=Aside0.mk (blk_below (g:=gb301) (o:=.cells #[.slice A0_0 l0_0.length c0_0] 24 (0,0)) (by (with_reducible repeat (first|refine blk_drewN ?_ _|refine blk_drew ?_|refine blk_alloc ?_ _));exact BK301.out) hb);have n1_:=Aside0.mk (below_step (by repeat (first|(with_reducible first|exact HB.out|apply below_alloc|apply pw_below_drewN|apply below_drew1|refine below_set ?_ GE301.out)|exact HB.out)) hb);clear BK301;clear HB;have BK301:=n0_;have HB:=n1_;clear n0_ n1_;(try clear hb);(try clear hb2);(try clear hk);(try clear hi)))
  go_ret
  exact ⟨by first|rfl|(simp [errW_none,errW_some]<;>rfl)|(simp [*,errW_none,errW_some]<;>rfl),by repeat (first|(with_reducible first|exact HB.out|apply below_alloc|apply pw_below_drewN|apply below_drew1|refine below_set ?_ GE301.out)|exact HB.out)⟩
 ·rw [if_neg c4] at H
  have c4b0:decide (t302<0)=false:=decide_eq_false c4
  clear c4
  replace H:=Option.bind_eq_some_iff.mp H
  obtain ⟨t303,A80,H⟩:=H
  replace H:((spec_Inner.f k t303 a1).bind fun t306=>((laws_toTree.f k l0_0).bind fun t307=>((impl_Inner.f k t307 a1).bind fun t311=>(if t311.toList=t306.toList then ((laws_toTree.f k l0_0).bind fun t312=>((laws_eqTree.f k t307 t312).bind fun t315=>(if t315=true then (some true) else (none)))) else (none)))))=some r:=H
  have A8:=Aside0.mk A80
  clear A80
  replace H:=Option.bind_eq_some_iff.mp H
  obtain ⟨t306,A90,H⟩:=H
  replace H:((laws_toTree.f k l0_0).bind fun t307=>((impl_Inner.f k t307 a1).bind fun t311=>(if t311.toList=t306.toList then ((laws_toTree.f k l0_0).bind fun t312=>((laws_eqTree.f k t307 t312).bind fun t315=>(if t315=true then (some true) else (none)))) else (none))))=some r:=H
  have A9:=Aside0.mk A90
  clear A90
  replace H:=Option.bind_eq_some_iff.mp H
  obtain ⟨t307,A100,H⟩:=H
  replace H:((impl_Inner.f k t307 a1).bind fun t311=>(if t311.toList=t306.toList then ((laws_toTree.f k l0_0).bind fun t312=>((laws_eqTree.f k t307 t312).bind fun t315=>(if t315=true then (some true) else (none)))) else (none)))=some r:=H
  have A10:=Aside0.mk A100
  clear A100
  replace H:=Option.bind_eq_some_iff.mp H
  obtain ⟨t311,A110,H⟩:=H
  replace H:(if t311.toList=t306.toList then ((laws_toTree.f k l0_0).bind fun t312=>((laws_eqTree.f k t307 t312).bind fun t315=>(if t315=true then (some true) else (none)))) else (none))=some r:=H
  have A11:=Aside0.mk A110
  clear A110
  by_cases c12:t311.toList=t306.toList
  ·rw [if_pos c12] at H
   have c12b0:(t311.toList==t306.toList)=true:=beq_iff_eq.mpr c12
   have c12b1:(t311.toList != t306.toList)=false:=bne_eq_false_iff_eq.mpr c12
   clear c12
   replace H:=Option.bind_eq_some_iff.mp H
   obtain ⟨t312,A130,H⟩:=H
   replace H:((laws_eqTree.f k t307 t312).bind fun t315=>(if t315=true then (some true) else (none)))=some r:=H
   have A13:=Aside0.mk A130
   clear A130
   replace H:=Option.bind_eq_some_iff.mp H
   obtain ⟨t315,A140,H⟩:=H
   replace H:(if t315=true then (some true) else (none))=some r:=H
   have A14:=Aside0.mk A140
   clear A140
   by_cases c15:t315=true
   ·subst c15
    have H1:(some true)=some r:=by rw [if_pos rfl] at H;exact H
    clear H
    have H:=H1
    clear H1
    obtain rfl:=Option.some.inj H
    go_enter Tryz.func4,Tryz.ntmps4
    try go_wp2_with (first|((with_reducible refine gate_dst (N:=2) rfl ?_);refine box_event ?hg (N:=2) ?hd (cs:=#[.slice A0_0 l0_0.length c0_0]) (t:=24) ?hr ?_;(case hd=>rfl);(case hg=>rfl);(case hr=>first|(go_simp;done)|(go_simp;rfl));intro gb301 hg w16 hbox hb;have n0_:=Aside0.mk (below_step (by repeat (first|(with_reducible first|exact HB.out|apply below_alloc|apply pw_below_drewN|apply below_drew1)|exact HB.out)) hb);have n1_:=Aside0.mk (hbox);have n2_:=Aside0.mk ((by rw [hg];exact (below_size (by repeat (first|(with_reducible first|exact HB.out|apply below_alloc|apply pw_below_drewN|apply below_drew1)|exact HB.out))):w.heap.size≤gb301));have n3_:=Aside0.mk ((by rw [hg];exact (below_size (by repeat (first|(with_reducible first|exact HB.out|apply below_alloc|apply pw_below_drewN|apply below_drew1)|exact HB.out))):w.heap.size≤gb301));clear HB;have HB:=n0_;have BK301:=n1_;have GW301:=n2_;have GE301:=n3_;clear n0_ n1_ n2_ n3_;clear hb hbox hg;have hcz17_0:w16.cell? ⟨gb301,0,none⟩=some (.slice A0_0 l0_0.length c0_0):=(blk_cell BK301.out 0).trans rfl;have hfz17_0:=blk_frozen BK301.out 0)|((with_reducible refine gate_callee (f:=5) rfl ?_);refine goesL_ (some 11) rfl rfl Tryz.func5 (by kernel_rfl) rfl #[.agg #[.slice A0_0 l0_0.length c0_0],.int .i64 1048576] rfl (by (try simp only [List.map_toArray,List.map_cons,List.map_nil]);first|done|rfl|(simp only [List.length_drop,List.length_take];rfl)) ?_;(with_reducible refine (laws_szTree.calls k _ _ l0_0 1048576 t302 _ ?side1 ?side2 A3.out).mono ?_);(case side1=>repeat (first|exact (Kd.C_below HR0_0.out HB.out)|(with_reducible refine Kd.C_alloc ?_ _)|(with_reducible refine Kd.C_drewN ?_ _)|(with_reducible refine Kd.C_drew ?_)));(case side2=>exact HC0_0.out);rintro e w18 ⟨rfl,hb⟩;refine ⟨_,rfl,?_⟩;have n0_:=Aside0.mk (blk_below (g:=gb301) (o:=.cells #[.slice A0_0 l0_0.length c0_0] 24 (0,0)) (by (with_reducible repeat (first|refine blk_drewN ?_ _|refine blk_drew ?_|refine blk_alloc ?_ _));exact BK301.out) hb);have n1_:=Aside0.mk (below_step (by repeat (first|(with_reducible first|exact HB.out|apply below_alloc|apply pw_below_drewN|apply below_drew1|refine below_set ?_ GE301.out)|exact HB.out)) hb);clear BK301;clear HB;have BK301:=n0_;have HB:=n1_;clear n0_ n1_;(try clear hb);(try clear hb2);(try clear hk);(try clear hi);have hcz19_0:w18.cell? ⟨gb301,0,none⟩=some (.slice A0_0 l0_0.length c0_0):=(blk_cell BK301.out 0).trans rfl;have hfz19_0:=blk_frozen BK301.out 0)|((with_reducible refine gate_callee (f:=7) rfl ?_);refine goesL_ (some 15) rfl rfl Tryz.func7 (by kernel_rfl) rfl #[.agg #[.slice A0_0 l0_0.length c0_0]] rfl (by (try simp only [List.map_toArray,List.map_cons,List.map_nil]);first|done|rfl|(simp only [List.length_drop,List.length_take];rfl)) ?_;(with_reducible refine (laws_toTree.calls k _ _ l0_0 t303 _ ?side1 ?side2 A8.out).mono ?_);(case side1=>repeat (first|exact (Kd.C_below HR0_0.out HB.out)|(with_reducible refine Kd.C_alloc ?_ _)|(with_reducible refine Kd.C_drewN ?_ _)|(with_reducible refine Kd.C_drew ?_)));(case side2=>exact HC0_0.out);rintro e w20 ⟨v304,rfl,ho0,hb⟩;refine ⟨_,rfl,?_⟩;have n0_:=Aside0.mk (Kd.S_lower ho0 (below_size (by repeat (first|(with_reducible first|exact HB.out|apply below_alloc|apply pw_below_drewN|apply below_drew1|refine below_set ?_ GE301.out)|exact HB.out))));have n1_:=Aside0.mk (blk_below (g:=gb301) (o:=.cells #[.slice A0_0 l0_0.length c0_0] 24 (0,0)) (by (with_reducible repeat (first|refine blk_drewN ?_ _|refine blk_drew ?_|refine blk_alloc ?_ _));exact BK301.out) hb);have n2_:=Aside0.mk (below_step (by repeat (first|(with_reducible first|exact HB.out|apply below_alloc|apply pw_below_drewN|apply below_drew1|refine below_set ?_ GE301.out)|exact HB.out)) hb);clear BK301;clear HB;have HO305:=n0_;have BK301:=n1_;have HB:=n2_;clear n0_ n1_ n2_;(try clear hb);(try clear hb2);(try clear hk);(try clear hi);(try clear ho0);obtain ⟨Ao21,co21,eo21⟩:=Kd.S_slice HO305.out;subst eo21)|((with_reducible refine gate_callee (f:=10) rfl ?_);refine goesL_ (some 17) rfl rfl Tryz.func10 (by kernel_rfl) rfl #[.agg #[.slice Ao21 t303.length co21],.int .i64 a1] rfl (by (try simp only [List.map_toArray,List.map_cons,List.map_nil]);first|done|rfl|(simp only [List.length_drop,List.length_take];rfl)) ?_;(with_reducible refine (spec_Inner.calls k _ _ t303 a1 t306 _ ?side1 ?side2 A9.out).mono ?_);(case side1=>repeat (first|exact (Kd.S_reads' HO305.out).2.2|(with_reducible refine Kd.C_alloc ?_ _)|(with_reducible refine Kd.C_drewN ?_ _)|(with_reducible refine Kd.C_drew ?_)));(case side2=>exact (Kd.S_reads' HO305.out).2.1);rintro e w22 ⟨rfl,hb⟩;refine ⟨_,rfl,?_⟩;have n0_:=Aside0.mk (Kd.S_below (by (with_reducible repeat (first|apply Kd.S_alloc|apply Kd.S_drewN|apply Kd.S_drew));exact HO305.out) hb);have n1_:=Aside0.mk (blk_below (g:=gb301) (o:=.cells #[.slice A0_0 l0_0.length c0_0] 24 (0,0)) (by (with_reducible repeat (first|refine blk_drewN ?_ _|refine blk_drew ?_|refine blk_alloc ?_ _));exact BK301.out) hb);have n2_:=Aside0.mk (below_step (by repeat (first|(with_reducible first|exact HB.out|apply below_alloc|apply pw_below_drewN|apply below_drew1|refine below_set ?_ GE301.out)|exact HB.out)) hb);clear HO305;clear BK301;clear HB;have HO305:=n0_;have BK301:=n1_;have HB:=n2_;clear n0_ n1_ n2_;(try clear hb);(try clear hb2);(try clear hk);(try clear hi);have hcz23_0:w22.cell? ⟨gb301,0,none⟩=some (.slice A0_0 l0_0.length c0_0):=(blk_cell BK301.out 0).trans rfl;have hfz23_0:=blk_frozen BK301.out 0)|((with_reducible refine gate_callee (f:=7) rfl ?_);refine goesL_ (some 19) rfl rfl Tryz.func7 (by kernel_rfl) rfl #[.agg #[.slice A0_0 l0_0.length c0_0]] rfl (by (try simp only [List.map_toArray,List.map_cons,List.map_nil]);first|done|rfl|(simp only [List.length_drop,List.length_take];rfl)) ?_;(with_reducible refine (laws_toTree.calls k _ _ l0_0 t307 _ ?side1 ?side2 A10.out).mono ?_);(case side1=>repeat (first|exact (Kd.C_below HR0_0.out HB.out)|(with_reducible refine Kd.C_alloc ?_ _)|(with_reducible refine Kd.C_drewN ?_ _)|(with_reducible refine Kd.C_drew ?_)));(case side2=>exact HC0_0.out);rintro e w24 ⟨v308,rfl,ho0,hb⟩;refine ⟨_,rfl,?_⟩;have n0_:=Aside0.mk (Kd.S_elder' (by (with_reducible repeat (first|apply Kd.S_alloc|apply Kd.S_drewN|apply Kd.S_drew));exact HO305.out) (Kd.S_base ho0) hb);have n1_:=Aside0.mk (Kd.S_lower (Kd.S_new' ho0 (Kd.S_lt (by (with_reducible repeat (first|apply Kd.S_alloc|apply Kd.S_drewN|apply Kd.S_drew));exact HO305.out))) (below_size (by repeat (first|(with_reducible first|exact HB.out|apply below_alloc|apply pw_below_drewN|apply below_drew1|refine below_set ?_ GE301.out)|exact HB.out))));have n2_:=Aside0.mk (blk_below (g:=gb301) (o:=.cells #[.slice A0_0 l0_0.length c0_0] 24 (0,0)) (by (with_reducible repeat (first|refine blk_drewN ?_ _|refine blk_drew ?_|refine blk_alloc ?_ _));exact BK301.out) hb);have n3_:=Aside0.mk (below_step (by repeat (first|(with_reducible first|exact HB.out|apply below_alloc|apply pw_below_drewN|apply below_drew1|refine below_set ?_ GE301.out)|exact HB.out)) hb);clear HO305;clear BK301;clear HB;have HO305:=n0_;have HO309:=n1_;have BK301:=n2_;have HB:=n3_;clear n0_ n1_ n2_ n3_;(try clear hb);(try clear hb2);(try clear hk);(try clear hi);(try clear ho0))|((with_reducible refine gate_dst (N:=7) rfl ?_);refine box_event ?hg (N:=7) ?hd (cs:=#[.slice none 0 0]) (t:=29) ?hr ?_;(case hd=>rfl);(case hg=>rfl);(case hr=>first|(go_simp;done)|(go_simp;rfl));intro gb310 hg w25 hbox hb;have n0_:=Aside0.mk (Kd.S_below (by (with_reducible repeat (first|apply Kd.S_alloc|apply Kd.S_drewN|apply Kd.S_drew));exact HO305.out) hb);have n1_:=Aside0.mk (Kd.S_below (by (with_reducible repeat (first|apply Kd.S_alloc|apply Kd.S_drewN|apply Kd.S_drew));exact HO309.out) hb);have n2_:=Aside0.mk (blk_below (g:=gb301) (o:=.cells #[.slice A0_0 l0_0.length c0_0] 24 (0,0)) (by (with_reducible repeat (first|refine blk_drewN ?_ _|refine blk_drew ?_|refine blk_alloc ?_ _));exact BK301.out) hb);have n3_:=Aside0.mk (below_step (by repeat (first|(with_reducible first|exact HB.out|apply below_alloc|apply pw_below_drewN|apply below_drew1|refine below_set ?_ GE301.out)|exact HB.out)) hb);have n4_:=Aside0.mk (hbox);have n5_:=Aside0.mk ((by rw [hg];exact (below_size (by repeat (first|(with_reducible first|exact HB.out|apply below_alloc|apply pw_below_drewN|apply below_drew1|refine below_set ?_ GE301.out)|exact HB.out))):w.heap.size≤gb310));have n6_:=Aside0.mk ((by rw [hg];exact (below_size (by repeat (first|(with_reducible first|exact HB.out|apply below_alloc|apply pw_below_drewN|apply below_drew1|refine below_set ?_ GE301.out)|exact HB.out))):w.heap.size≤gb310));have n7_:=Aside0.mk ((by rw [hg];exact Nat.ne_of_lt (blk_lt (g:=gb301) (o:=.cells #[.slice A0_0 l0_0.length c0_0] 24 (0,0)) (by (with_reducible repeat (first|refine blk_drewN ?_ _|refine blk_drew ?_|refine blk_alloc ?_ _));exact BK301.out)):gb301≠gb310));have n8_:=Aside0.mk ((by rw [hg];exact Nat.ne_of_gt (blk_lt (g:=gb301) (o:=.cells #[.slice A0_0 l0_0.length c0_0] 24 (0,0)) (by (with_reducible repeat (first|refine blk_drewN ?_ _|refine blk_drew ?_|refine blk_alloc ?_ _));exact BK301.out)):gb310≠gb301));clear HO305;clear HO309;clear BK301;clear HB;have HO305:=n0_;have HO309:=n1_;have BK301:=n2_;have HB:=n3_;have BK310:=n4_;have GW310:=n5_;have GE310:=n6_;have NB301_310:=n7_;have NB310_301:=n8_;clear n0_ n1_ n2_ n3_ n4_ n5_ n6_ n7_ n8_;clear hb hbox hg;obtain ⟨Ao26,co26,eo26⟩:=Kd.S_slice HO309.out;subst eo26;have hnb27:=NB310_301.out;have hnc27:=NB301_310.out;have hcz28_0:w25.cell? ⟨gb310,0,none⟩=some (.slice none 0 0):=(blk_cell BK310.out 0).trans rfl;have hfz28_0:=blk_frozen BK310.out 0)|((with_reducible refine gate_callee (f:=11) rfl ?_);refine goesL_ (some 22) rfl rfl Tryz.func11 (by kernel_rfl) rfl #[.agg #[.slice Ao26 t307.length co26],.int .i64 a1] rfl (by (try simp only [List.map_toArray,List.map_cons,List.map_nil]);first|done|rfl|(simp only [List.length_drop,List.length_take];rfl)) ?_;(with_reducible refine (impl_Inner.calls k _ _ t307 a1 t311 _ ?side1 ?side2 (HGT.out.below (by repeat (first|(with_reducible first|exact HB.out|apply below_alloc|apply pw_below_drewN|apply below_drew1|refine below_set ?_ GE301.out|refine below_set ?_ GE310.out)|exact HB.out))) A11.out).mono ?_);(case side1=>refine (Kd.S_reads' (e:=57) (base:=w.heap.size) (ok:=fun k_=>(True∧some k_≠(.slice Ao21 t303.length co21:Value).ownBlock)) (n:=t307.length) (c:=co26) ?_).2.2;exact (by (with_reducible repeat (first|apply Kd.S_alloc|apply Kd.S_drewN|apply Kd.S_drew));exact (Kd.S_mono (Kd.S_far (p:=⟨gb310,0,none⟩) (Kd.S_types HO309.out BK310.out (by decide)) (fun _ hk=>hk.2) (.slice Ao26 t307.length co26)) (fun _ h_=>h_.1))));(case side2=>exact (Kd.S_reads' HO309.out).2.1);rintro e w29 ⟨rfl,hb⟩;refine ⟨_,rfl,?_⟩;have n0_:=Aside0.mk (Kd.S_below (by (with_reducible repeat (first|apply Kd.S_alloc|apply Kd.S_drewN|apply Kd.S_drew));exact (Kd.S_mono (Kd.S_far (p:=⟨gb310,0,none⟩) (Kd.S_types HO305.out BK310.out (by decide)) (fun _ hk=>hk.2) (.slice Ao26 t307.length co26)) (fun _ h_=>h_.1))) hb);have n1_:=Aside0.mk (Kd.S_below (by (with_reducible repeat (first|apply Kd.S_alloc|apply Kd.S_drewN|apply Kd.S_drew));exact (Kd.S_mono (Kd.S_far (p:=⟨gb310,0,none⟩) (Kd.S_types HO309.out BK310.out (by decide)) (fun _ hk=>hk.2) (.slice Ao26 t307.length co26)) (fun _ h_=>h_.1))) hb);have n2_:=Aside0.mk (blk_below (g:=gb301) (o:=.cells #[.slice A0_0 l0_0.length c0_0] 24 (0,0)) (by (with_reducible repeat (first|refine blk_drewN ?_ _|refine blk_drew ?_|refine blk_alloc ?_ _));refine blk_far ?_ NB301_310.out _;(with_reducible repeat (first|refine blk_drewN ?_ _|refine blk_drew ?_|refine blk_alloc ?_ _));exact BK301.out) hb);have n3_:=Aside0.mk (blk_below (g:=gb310) (o:=.cells #[.slice Ao26 t307.length co26] 29 (0,0)) (by (with_reducible repeat (first|refine blk_drewN ?_ _|refine blk_drew ?_|refine blk_alloc ?_ _));refine blk_put (cs:=#[.slice none 0 0]) ?_ 0 _ rfl;(with_reducible repeat (first|refine blk_drewN ?_ _|refine blk_drew ?_|refine blk_alloc ?_ _));exact BK310.out) hb);have n4_:=Aside0.mk (below_step (by repeat (first|(with_reducible first|exact HB.out|apply below_alloc|apply pw_below_drewN|apply below_drew1|refine below_set ?_ GE301.out|refine below_set ?_ GE310.out)|exact HB.out)) hb);clear HO305;clear HO309;clear BK301;clear BK310;clear HB;have HO305:=n0_;have HO309:=n1_;have BK301:=n2_;have BK310:=n3_;have HB:=n4_;clear n0_ n1_ n2_ n3_ n4_;(try clear hb);(try clear hb2);(try clear hk);(try clear hi)))
    have n0_:=Aside0.mk (Kd.S_drew HO305.out)
    have n1_:=Aside0.mk (Kd.S_drew HO309.out)
    have n2_:=Aside0.mk (blk_drew BK301.out)
    have n3_:=Aside0.mk (blk_drew BK310.out)
    have n4_:=Aside0.mk (below_drew1 HB.out)
    clear HO305
    clear HO309
    clear BK301
    clear BK310
    clear HB
    have HO305:=n0_
    have HO309:=n1_
    have BK301:=n2_
    have BK310:=n3_
    have HB:=n4_
    clear n0_ n1_ n2_ n3_ n4_
    refine start_ (n:=5) (S:=fun w'=>w'.cell? ⟨gb310,0,none⟩=some (.slice Ao26 t307.length co26)∧w'.cell? ⟨gb301,0,none⟩=some (.slice A0_0 l0_0.length c0_0)) (ds:=[]) #[false,false,false,false,false] (by kernel_rfl) rfl rfl ⟨(blk_cell BK310.out 0).trans rfl,(blk_cell BK301.out 0).trans rfl⟩ (fun hHeld=>?_)
    generalize w29.drew=w30 at HO305 HO309 BK301 BK310 HB hHeld ⊢
    refine take_ (i:=0) (N:=some 26) (v:=?_) (a':=?_) #[true,false,false,false,false] rfl rfl (by kernel_rfl) (fun _ _ _ h=>h) (Or.inl ⟨by rfl,?_⟩) hHeld ?_ ?_
    rotate_left
    ·rintro w' ⟨s0,s1⟩
     go_simp
     with_reducible rfl
    rotate_left
    ·simp only [Act.put,List.setIfInBounds_toArray,List.set_cons_zero,List.set_cons_succ,i64_w,i32_w]
     rfl
    refine take_ (i:=1) (N:=some 27) (v:=?_) (a':=?_) #[true,true,false,false,false] rfl rfl (by kernel_rfl) (fun _ _ _ h=>h) (Or.inl ⟨by rfl,?_⟩) hHeld ?_ ?_
    rotate_left
    ·rintro w' ⟨s0,s1⟩
     go_simp
     with_reducible rfl
    rotate_left
    ·simp only [Act.put,List.setIfInBounds_toArray,List.set_cons_zero,List.set_cons_succ,i64_w,i32_w]
     rfl
    refine one_ (i:=2) (N:=some 28) #[true,true,true,false,false] rfl rfl (by kernel_rfl) (by decide) (fun K hK=>?_)
    refine goes_ Tryz.func7 (by kernel_rfl) rfl #[.agg #[.slice A0_0 l0_0.length c0_0]] (by rfl) rfl rfl (by (try simp only [List.map_toArray,List.map_cons,List.map_nil]);first|done|rfl|(simp only [List.length_drop,List.length_take];rfl)) ?_
    with_reducible refine (laws_toTree.calls k _ _ l0_0 t312 _ ?side1 ?side2 A13.out).mono ?_
    (case side1=>repeat (first|exact (Kd.C_below HR0_0.out HB.out)|(with_reducible refine Kd.C_alloc ?_ _)|(with_reducible refine Kd.C_drewN ?_ _)|(with_reducible refine Kd.C_drew ?_)))
    (case side2=>exact HC0_0.out)
    rintro e w31 ⟨v313,rfl,ho0,hb⟩
    refine ⟨_,rfl,?_⟩
    have n0_:=Aside0.mk (Kd.S_elder' (by (with_reducible repeat (first|apply Kd.S_alloc|apply Kd.S_drewN|apply Kd.S_drew));exact HO305.out) (Kd.S_base ho0) hb)
    have n1_:=Aside0.mk (Kd.S_elder' (by (with_reducible repeat (first|apply Kd.S_alloc|apply Kd.S_drewN|apply Kd.S_drew));exact HO309.out) (Kd.S_base ho0) hb)
    have n2_:=Aside0.mk (Kd.S_lower (Kd.S_new' (Kd.S_new' ho0 (Kd.S_lt (by (with_reducible repeat (first|apply Kd.S_alloc|apply Kd.S_drewN|apply Kd.S_drew));exact HO305.out))) (Kd.S_lt (by (with_reducible repeat (first|apply Kd.S_alloc|apply Kd.S_drewN|apply Kd.S_drew));exact HO309.out))) (below_size (by repeat (first|(with_reducible first|exact HB.out|apply below_alloc|apply pw_below_drewN|apply below_drew1|refine below_set ?_ GE301.out|refine below_set ?_ GE310.out)|exact HB.out))))
    have n3_:=Aside0.mk (blk_below (g:=gb301) (o:=.cells #[.slice A0_0 l0_0.length c0_0] 24 (0,0)) (by (with_reducible repeat (first|refine blk_drewN ?_ _|refine blk_drew ?_|refine blk_alloc ?_ _));exact BK301.out) hb)
    have n4_:=Aside0.mk (blk_below (g:=gb310) (o:=.cells #[.slice Ao26 t307.length co26] 29 (0,0)) (by (with_reducible repeat (first|refine blk_drewN ?_ _|refine blk_drew ?_|refine blk_alloc ?_ _));exact BK310.out) hb)
    have n5_:=Aside0.mk (below_step (by repeat (first|(with_reducible first|exact HB.out|apply below_alloc|apply pw_below_drewN|apply below_drew1|refine below_set ?_ GE301.out|refine below_set ?_ GE310.out)|exact HB.out)) hb)
    clear HO305
    clear HO309
    clear BK301
    clear BK310
    clear HB
    have HO305:=n0_
    have HO309:=n1_
    have HO314:=n2_
    have BK301:=n3_
    have BK310:=n4_
    have HB:=n5_
    clear n0_ n1_ n2_ n3_ n4_ n5_
    (try clear hb)
    (try clear hb2)
    (try clear hk)
    (try clear hi)
    (try clear ho0)
    obtain ⟨Ao32,co32,eo32⟩:=Kd.S_slice HO314.out
    (first|subst eo32|(injection eo32 with f1_ f2_ f3_;have f4_:=f1_.symm;have f5_:=f3_.symm;clear f1_ f2_ f3_;subst f4_;subst f5_))
    refine hK.out _ _ ⟨(blk_cell BK310.out 0).trans rfl,(blk_cell BK301.out 0).trans rfl⟩ (fun hHeld=>?_)
    clear hK K
    refine norm_ (a':=?_) ?_ ?_
    rotate_left
    ·show Act.put _ (some 28) _=_
     simp only [Act.put,List.setIfInBounds_toArray,List.set_cons_zero,List.set_cons_succ,i64_w,i32_w]
     rfl
    refine one_ (i:=3) (N:=some 29) #[true,true,true,true,false] rfl rfl (by kernel_rfl) (by decide) (fun K hK=>?_)
    refine goes_ Tryz.func9 (by kernel_rfl) rfl #[.agg #[.slice Ao26 t307.length co26],.agg #[.slice Ao32 t312.length co32]] (by rfl) rfl rfl (by (try simp only [List.map_toArray,List.map_cons,List.map_nil]);first|done|rfl|(simp only [List.length_drop,List.length_take];rfl)) ?_
    with_reducible refine (laws_eqTree.calls k _ _ t307 _ _ t312 true _ ?side1 ?side2 ?side3 ?side4 A14.out).mono ?_
    (case side1=>repeat (first|exact (Kd.S_reads' HO309.out).2.2|(with_reducible refine Kd.C_alloc ?_ _)|(with_reducible refine Kd.C_drewN ?_ _)|(with_reducible refine Kd.C_drew ?_)))
    (case side2=>exact (Kd.S_reads' HO309.out).2.1)
    (case side3=>repeat (first|exact (Kd.S_reads' HO314.out).2.2|(with_reducible refine Kd.C_alloc ?_ _)|(with_reducible refine Kd.C_drewN ?_ _)|(with_reducible refine Kd.C_drew ?_)))
    (case side4=>exact (Kd.S_reads' HO314.out).2.1)
    rintro e w33 ⟨rfl,hb⟩
    refine ⟨_,rfl,?_⟩
    have n0_:=Aside0.mk (Kd.S_below (by (with_reducible repeat (first|apply Kd.S_alloc|apply Kd.S_drewN|apply Kd.S_drew));exact HO305.out) hb)
    have n1_:=Aside0.mk (Kd.S_below (by (with_reducible repeat (first|apply Kd.S_alloc|apply Kd.S_drewN|apply Kd.S_drew));exact HO309.out) hb)
    have n2_:=Aside0.mk (Kd.S_below (by (with_reducible repeat (first|apply Kd.S_alloc|apply Kd.S_drewN|apply Kd.S_drew));exact HO314.out) hb)
    have n3_:=Aside0.mk (blk_below (g:=gb301) (o:=.cells #[.slice A0_0 l0_0.length c0_0] 24 (0,0)) (by (with_reducible repeat (first|refine blk_drewN ?_ _|refine blk_drew ?_|refine blk_alloc ?_ _));exact BK301.out) hb)
    have n4_:=Aside0.mk (blk_below (g:=gb310) (o:=.cells #[.slice Ao26 t307.length co26] 29 (0,0)) (by (with_reducible repeat (first|refine blk_drewN ?_ _|refine blk_drew ?_|refine blk_alloc ?_ _));exact BK310.out) hb)
    have n5_:=Aside0.mk (below_step (by repeat (first|(with_reducible first|exact HB.out|apply below_alloc|apply pw_below_drewN|apply below_drew1|refine below_set ?_ GE301.out|refine below_set ?_ GE310.out)|exact HB.out)) hb)
    clear HO305
    clear HO309
    clear HO314
    clear BK301
    clear BK310
    clear HB
    have HO305:=n0_
    have HO309:=n1_
    have HO314:=n2_
    have BK301:=n3_
    have BK310:=n4_
    have HB:=n5_
    clear n0_ n1_ n2_ n3_ n4_ n5_
    (try clear hb)
    (try clear hb2)
    (try clear hk)
    (try clear hi)
    refine hK.out _ _ ⟨(blk_cell BK310.out 0).trans rfl,(blk_cell BK301.out 0).trans rfl⟩ (fun hHeld=>?_)
    clear hK K
    refine norm_ (a':=?_) ?_ ?_
    rotate_left
    ·show Act.put _ (some 29) _=_
     simp only [Act.put,List.setIfInBounds_toArray,List.set_cons_zero,List.set_cons_succ,i64_w,i32_w]
     rfl
    refine pure_ (i:=4) (N:=some 30) (v:=?_) (a':=?_) #[true,true,true,true,true] rfl rfl (by kernel_rfl) (fun _ _ _ h=>h) (Or.inl ⟨by rfl,?_⟩) ?_ ?_
    rotate_left
    ·intro w'
     go_simp
     with_reducible rfl
    rotate_left
    ·simp only [Act.put,List.setIfInBounds_toArray,List.set_cons_zero,List.set_cons_succ,i64_w,i32_w]
     rfl
    refine done_ (by kernel_rfl) ?_
    try go_wp2
    go_ret
    exact ⟨by first|rfl|(simp [errW_none,errW_some]<;>rfl)|(simp [*,errW_none,errW_some]<;>rfl),by repeat (first|(with_reducible first|exact HB.out|apply below_alloc|apply pw_below_drewN|apply below_drew1|refine below_set ?_ GE301.out|refine below_set ?_ GE310.out)|exact HB.out)⟩
   ·replace c15:=Bool.eq_false_iff.mpr c15
    subst c15
    exact absurd H (by simp)
  ·rw [if_neg c12] at H
   exact absurd H (by simp)
end Go.Proofs.YtjojmfhgfeflnaaGreatDoor.QFnExactInner
