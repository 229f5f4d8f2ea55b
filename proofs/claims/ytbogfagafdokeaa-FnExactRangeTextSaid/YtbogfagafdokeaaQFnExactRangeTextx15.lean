import Derived.Test.YtbogfagafdokeaaQFnExactRangeTextx0
import Derived.Test.YtbogfagafdokeaaQFnExactRangeTextx1
import Derived.Test.YtbogfagafdokeaaQFnExactRangeTextx3
import Derived.Test.YtbogfagafdokeaaQFnExactRangeTextx10
import Derived.Test.YtbogfagafdokeaaQFnExactRangeTextx11
import Derived.Test.YtbogfagafdokeaaQFnExactRangeTextx14
namespace Go.Proofs.Ytbogfagafdokeaa.QFnExactRangeText
open Go.RowKit Go.Proofs.YtbogfagafdokeaaV.PrintWords Go.Proofs.YtbogfagafdokeaaV.PrintLast Go.Proofs.YtbogfagafdokeaaV.PrintMore
attribute [local go_sem] max2_int min2_int max_two min_two max_three min_three max_four min_four
set_option linter.unusedVariables false
set_option linter.unusedSimpArgs false
/-! ### laws_FnExactRangeText: function 4 -/
noncomputable def laws_FnExactRangeText.f (k:Nat) (l0_0:List (S64)) (a1_0:Int) (a1_1:Int) (a1_2:Int) (a1_3:Int):Option (Bool):=(laws_szTree.f k l0_0 1048576).bind fun t372=>(if t372<0 then (some true) else ((laws_toTree.f k l0_0).bind fun t373=>((laws_toRange.f a1_0 a1_1 a1_2 a1_3).bind fun bt376=>((spec_RangeText.f k t373 bt376.1 bt376.2.1 bt376.2.2.1 bt376.2.2.2).bind fun t380=>((laws_toTree.f k l0_0).bind fun t381=>((laws_toRange.f a1_0 a1_1 a1_2 a1_3).bind fun bt385=>((impl_RangeText.f k t381 bt385.1 bt385.2.1 bt385.2.2.1 bt385.2.2.2).bind fun t389=>(if t389.toList=t380.toList then ((laws_toTree.f k l0_0).bind fun t390=>((laws_eqTree.f k t381 t390).bind fun t393=>(if t393=true then (some true) else (none)))) else (none)))))))))
theorem laws_FnExactRangeText.mono:∀ a0 a1 a2 a3 a4 k,LeO (laws_FnExactRangeText.f k a0 a1 a2 a3 a4) (laws_FnExactRangeText.f (k+1) a0 a1 a2 a3 a4):=by
 intro a0 a1 a2 a3 a4 k
 unfold laws_FnExactRangeText.f
 repeat' first
  |(with_reducible exact impl_RangeText.mono _ _ _ _ _ _)
  |(with_reducible exact laws_eqTree.mono _ _ _)
  |(with_reducible exact laws_szTree.mono _ _ _)
  |(with_reducible exact laws_toTree.mono _ _)
  |(with_reducible exact spec_RangeText.mono _ _ _ _ _ _)
  |(with_reducible exact LeO.refl _)
  |(with_reducible exact LeO.none _)
  |(with_reducible refine LeO.ite ?_ ?_)
  |(with_reducible refine LeO.bind ?_ (fun _=>?_))
  |exact impl_RangeText.mono _ _ _ _ _ _
  |exact laws_eqTree.mono _ _ _
  |exact laws_szTree.mono _ _ _
  |exact laws_toTree.mono _ _
  |exact spec_RangeText.mono _ _ _ _ _ _
  |exact LeO.none _
  |refine LeO.ite ?_ ?_
  |refine LeO.bind ?_ (fun _=>?_)
set_option maxHeartbeats 8000000 in
set_option maxRecDepth 100000 in
theorem laws_FnExactRangeText.calls (k:Nat) (A0_0:Option Addr) (c0_0:Nat) (l0_0:List (S64)) (a1_0:Int) (a1_1:Int) (a1_2:Int) (a1_3:Int) (r:Bool) (w:World) (hr0_0:Kd.C k64 w A0_0 l0_0.length l0_0) (hc0_0:l0_0.length≤c0_0) (h:laws_FnExactRangeText.f k l0_0 a1_0 a1_1 a1_2 a1_3=some r) :
  Calls Try.prog 4 #[.agg #[.slice A0_0 l0_0.length c0_0],.agg #[.int .i64 a1_0,.int .i64 a1_1,.int .i64 a1_2,.int .i64 a1_3]] w fun e w'=>e=.returned (.bool r)∧Below w.heap.size w w':=by
 have hu24:=Try.underlying24
 have hu38:=Try.underlying38
 have hu31:=Try.underlying31
 have HR0_0:=Aside0.mk hr0_0
 have HC0_0:=Aside0.mk hc0_0
 clear hr0_0 hc0_0
 have HB:=Aside0.mk (Below.refl w.heap.size w)
 have H:((laws_szTree.f k l0_0 1048576).bind fun t372=>(if t372<0 then (some true) else ((laws_toTree.f k l0_0).bind fun t373=>((laws_toRange.f a1_0 a1_1 a1_2 a1_3).bind fun bt376=>((spec_RangeText.f k t373 bt376.1 bt376.2.1 bt376.2.2.1 bt376.2.2.2).bind fun t380=>((laws_toTree.f k l0_0).bind fun t381=>((laws_toRange.f a1_0 a1_1 a1_2 a1_3).bind fun bt385=>((impl_RangeText.f k t381 bt385.1 bt385.2.1 bt385.2.2.1 bt385.2.2.2).bind fun t389=>(if t389.toList=t380.toList then ((laws_toTree.f k l0_0).bind fun t390=>((laws_eqTree.f k t381 t390).bind fun t393=>(if t393=true then (some true) else (none)))) else (none))))))))))=some r:=h
 clear h
 replace H:=Option.bind_eq_some_iff.mp H
 obtain ⟨t372,A30,H⟩:=H
 try dsimp only at H
 have A3:=Aside0.mk A30
 clear A30
 by_cases c4:t372<0
 ·rw [if_pos c4] at H
  have c4b0:decide (t372<0)=true:=decide_eq_true c4
  clear c4
  obtain rfl:=Option.some.inj H
  go_enter Try.func4,Try.ntmps4
  go_wp2_with (first|((with_reducible refine gate_dst (N:=2) rfl ?_);refine box_event rfl (N:=2) rfl (cs:=#[.slice A0_0 l0_0.length c0_0]) (t:=24) ?hr ?_;(case hr=>first|(go_simp;done)|(go_simp;rfl));intro gb370 hg w5 hbox hb;have n0_:=Aside0.mk (below_step (by repeat (first|exact HB.out|apply below_alloc|apply pw_below_drewN|apply below_drew1)) hb);have n1_:=Aside0.mk (hbox);have n2_:=Aside0.mk ((by rw [hg];exact (below_size (by repeat (first|exact HB.out|apply below_alloc|apply pw_below_drewN|apply below_drew1))):w.heap.size≤gb370));have n3_:=Aside0.mk ((by rw [hg];exact (below_size (by repeat (first|exact HB.out|apply below_alloc|apply pw_below_drewN|apply below_drew1))):w.heap.size≤gb370));clear HB;have HB:=n0_;have BK370:=n1_;have GW370:=n2_;have GE370:=n3_;clear n0_ n1_ n2_ n3_;clear hb hbox hg)|((with_reducible refine gate_dst (N:=3) rfl ?_);refine box_event rfl (N:=3) rfl (cs:=#[.int .i64 a1_0,.int .i64 a1_1,.int .i64 a1_2,.int .i64 a1_3]) (t:=38) ?hr ?_;(case hr=>first|(go_simp;done)|(go_simp;rfl));intro gb371 hg w6 hbox hb;have n0_:=Aside0.mk (blk_below (g:=gb370) (o:=.cells #[.slice A0_0 l0_0.length c0_0] 24 (0,0)) (by (with_reducible repeat (first|refine blk_drewN ?_ _|refine blk_drew ?_|refine blk_alloc ?_ _));exact BK370.out) hb);have n1_:=Aside0.mk (below_step (by repeat (first|exact HB.out|apply below_alloc|apply pw_below_drewN|apply below_drew1|refine below_set ?_ GE370.out)) hb);have n2_:=Aside0.mk (hbox);have n3_:=Aside0.mk ((by rw [hg];exact (below_size (by repeat (first|exact HB.out|apply below_alloc|apply pw_below_drewN|apply below_drew1|refine below_set ?_ GE370.out))):w.heap.size≤gb371));have n4_:=Aside0.mk ((by rw [hg];exact (below_size (by repeat (first|exact HB.out|apply below_alloc|apply pw_below_drewN|apply below_drew1|refine below_set ?_ GE370.out))):w.heap.size≤gb371));have n5_:=Aside0.mk ((by rw [hg];exact Nat.ne_of_lt (blk_lt (g:=gb370) (o:=.cells #[.slice A0_0 l0_0.length c0_0] 24 (0,0)) (by (with_reducible repeat (first|refine blk_drewN ?_ _|refine blk_drew ?_|refine blk_alloc ?_ _));exact BK370.out)):gb370≠gb371));have n6_:=Aside0.mk ((by rw [hg];exact Nat.ne_of_gt (blk_lt (g:=gb370) (o:=.cells #[.slice A0_0 l0_0.length c0_0] 24 (0,0)) (by (with_reducible repeat (first|refine blk_drewN ?_ _|refine blk_drew ?_|refine blk_alloc ?_ _));exact BK370.out)):gb371≠gb370));clear BK370;clear HB;have BK370:=n0_;have HB:=n1_;have BK371:=n2_;have GW371:=n3_;have GE371:=n4_;have NB370_371:=n5_;have NB371_370:=n6_;clear n0_ n1_ n2_ n3_ n4_ n5_ n6_;clear hb hbox hg;have hnb7:=NB370_371.out;have hnc7:=NB371_370.out;have hcz8_0:w6.cell? ⟨gb370,0,none⟩=some (.slice A0_0 l0_0.length c0_0):=(blk_cell BK370.out 0).trans rfl;have hfz8_0:=blk_frozen BK370.out 0)|((with_reducible refine gate_callee (f:=5) rfl ?_);refine goesL_ (some 11) rfl rfl Try.func5 (by kernel_rfl) rfl #[.agg #[.slice A0_0 l0_0.length c0_0],.int .i64 1048576] rfl (by (try simp only [List.map_toArray,List.map_cons,List.map_nil]);first|done|rfl|(simp only [List.length_drop,List.length_take];rfl)) ?_;(with_reducible refine (laws_szTree.calls k _ _ l0_0 1048576 t372 _ ?side1 ?side2 A3.out).mono ?_);(case side1=>repeat (first|exact (Kd.C_below HR0_0.out HB.out)|(with_reducible refine Kd.C_alloc ?_ _)|(with_reducible refine Kd.C_drewN ?_ _)|(with_reducible refine Kd.C_drew ?_)));(case side2=>exact HC0_0.out);rintro e w9 ⟨rfl,hb⟩;refine ⟨_,rfl,?_⟩;have n0_:=Aside0.mk (blk_below (g:=gb370) (o:=.cells #[.slice A0_0 l0_0.length c0_0] 24 (0,0)) (by (with_reducible repeat (first|refine blk_drewN ?_ _|refine blk_drew ?_|refine blk_alloc ?_ _));exact BK370.out) hb);have n1_:=Aside0.mk (blk_below (g:=gb371) (o:=.cells #[.int .i64 a1_0,.int .i64 a1_1,.int .i64 a1_2,.int .i64 a1_3] 38 (0,0)) (by (with_reducible repeat (first|refine blk_drewN ?_ _|refine blk_drew ?_|refine blk_alloc ?_ _));exact BK371.out) hb);have n2_:=Aside0.mk (below_step (by repeat (first|exact HB.out|apply below_alloc|apply pw_below_drewN|apply below_drew1|refine below_set ?_ GE370.out|refine below_set ?_ GE371.out)) hb);clear BK370;clear BK371;clear HB;have BK370:=n0_;have BK371:=n1_;have HB:=n2_;clear n0_ n1_ n2_;(try clear hb);(try clear hb2);(try clear hk);(try clear hi)))
  go_ret
  exact ⟨by first|rfl|(simp [errW_none,errW_some]<;>rfl)|(simp [*,errW_none,errW_some]<;>rfl),by repeat (first|exact HB.out|apply below_alloc|apply pw_below_drewN|apply below_drew1|refine below_set ?_ GE370.out|refine below_set ?_ GE371.out)⟩
 ·rw [if_neg c4] at H
  have c4b0:decide (t372<0)=false:=decide_eq_false c4
  clear c4
  replace H:=Option.bind_eq_some_iff.mp H
  obtain ⟨t373,A100,H⟩:=H
  try dsimp only at H
  have A10:=Aside0.mk A100
  clear A100
  replace H:=Option.bind_eq_some_iff.mp H
  obtain ⟨⟨t376,t377,t378,t379⟩,A110,H⟩:=H
  try dsimp only at H
  have A11:=Aside0.mk A110
  clear A110
  replace H:=Option.bind_eq_some_iff.mp H
  obtain ⟨t380,A120,H⟩:=H
  try dsimp only at H
  have A12:=Aside0.mk A120
  clear A120
  replace H:=Option.bind_eq_some_iff.mp H
  obtain ⟨t381,A130,H⟩:=H
  try dsimp only at H
  have A13:=Aside0.mk A130
  clear A130
  replace H:=Option.bind_eq_some_iff.mp H
  obtain ⟨⟨t385,t386,t387,t388⟩,A140,H⟩:=H
  try dsimp only at H
  have A14:=Aside0.mk A140
  clear A140
  replace H:=Option.bind_eq_some_iff.mp H
  obtain ⟨t389,A150,H⟩:=H
  try dsimp only at H
  have A15:=Aside0.mk A150
  clear A150
  by_cases c16:t389.toList=t380.toList
  ·rw [if_pos c16] at H
   have c16b0:(t389.toList==t380.toList)=true:=beq_iff_eq.mpr c16
   have c16b1:(t389.toList != t380.toList)=false:=bne_eq_false_iff_eq.mpr c16
   clear c16
   replace H:=Option.bind_eq_some_iff.mp H
   obtain ⟨t390,A170,H⟩:=H
   try dsimp only at H
   have A17:=Aside0.mk A170
   clear A170
   replace H:=Option.bind_eq_some_iff.mp H
   obtain ⟨t393,A180,H⟩:=H
   try dsimp only at H
   have A18:=Aside0.mk A180
   clear A180
   by_cases c19:t393=true
   ·subst c19
    have H1:=H
    rw [if_pos rfl] at H1
    clear H
    have H:=H1
    clear H1
    obtain rfl:=Option.some.inj H
    go_enter Try.func4,Try.ntmps4
    try go_wp2_with (first|((with_reducible refine gate_dst (N:=2) rfl ?_);refine box_event rfl (N:=2) rfl (cs:=#[.slice A0_0 l0_0.length c0_0]) (t:=24) ?hr ?_;(case hr=>first|(go_simp;done)|(go_simp;rfl));intro gb370 hg w20 hbox hb;have n0_:=Aside0.mk (below_step (by repeat (first|exact HB.out|apply below_alloc|apply pw_below_drewN|apply below_drew1)) hb);have n1_:=Aside0.mk (hbox);have n2_:=Aside0.mk ((by rw [hg];exact (below_size (by repeat (first|exact HB.out|apply below_alloc|apply pw_below_drewN|apply below_drew1))):w.heap.size≤gb370));have n3_:=Aside0.mk ((by rw [hg];exact (below_size (by repeat (first|exact HB.out|apply below_alloc|apply pw_below_drewN|apply below_drew1))):w.heap.size≤gb370));clear HB;have HB:=n0_;have BK370:=n1_;have GW370:=n2_;have GE370:=n3_;clear n0_ n1_ n2_ n3_;clear hb hbox hg)|((with_reducible refine gate_dst (N:=3) rfl ?_);refine box_event rfl (N:=3) rfl (cs:=#[.int .i64 a1_0,.int .i64 a1_1,.int .i64 a1_2,.int .i64 a1_3]) (t:=38) ?hr ?_;(case hr=>first|(go_simp;done)|(go_simp;rfl));intro gb371 hg w21 hbox hb;have n0_:=Aside0.mk (blk_below (g:=gb370) (o:=.cells #[.slice A0_0 l0_0.length c0_0] 24 (0,0)) (by (with_reducible repeat (first|refine blk_drewN ?_ _|refine blk_drew ?_|refine blk_alloc ?_ _));exact BK370.out) hb);have n1_:=Aside0.mk (below_step (by repeat (first|exact HB.out|apply below_alloc|apply pw_below_drewN|apply below_drew1|refine below_set ?_ GE370.out)) hb);have n2_:=Aside0.mk (hbox);have n3_:=Aside0.mk ((by rw [hg];exact (below_size (by repeat (first|exact HB.out|apply below_alloc|apply pw_below_drewN|apply below_drew1|refine below_set ?_ GE370.out))):w.heap.size≤gb371));have n4_:=Aside0.mk ((by rw [hg];exact (below_size (by repeat (first|exact HB.out|apply below_alloc|apply pw_below_drewN|apply below_drew1|refine below_set ?_ GE370.out))):w.heap.size≤gb371));have n5_:=Aside0.mk ((by rw [hg];exact Nat.ne_of_lt (blk_lt (g:=gb370) (o:=.cells #[.slice A0_0 l0_0.length c0_0] 24 (0,0)) (by (with_reducible repeat (first|refine blk_drewN ?_ _|refine blk_drew ?_|refine blk_alloc ?_ _));exact BK370.out)):gb370≠gb371));have n6_:=Aside0.mk ((by rw [hg];exact Nat.ne_of_gt (blk_lt (g:=gb370) (o:=.cells #[.slice A0_0 l0_0.length c0_0] 24 (0,0)) (by (with_reducible repeat (first|refine blk_drewN ?_ _|refine blk_drew ?_|refine blk_alloc ?_ _));exact BK370.out)):gb371≠gb370));clear BK370;clear HB;have BK370:=n0_;have HB:=n1_;have BK371:=n2_;have GW371:=n3_;have GE371:=n4_;have NB370_371:=n5_;have NB371_370:=n6_;clear n0_ n1_ n2_ n3_ n4_ n5_ n6_;clear hb hbox hg;have hnb22:=NB370_371.out;have hnc22:=NB371_370.out;have hcz23_0:w21.cell? ⟨gb370,0,none⟩=some (.slice A0_0 l0_0.length c0_0):=(blk_cell BK370.out 0).trans rfl;have hfz23_0:=blk_frozen BK370.out 0)|((with_reducible refine gate_callee (f:=5) rfl ?_);refine goesL_ (some 11) rfl rfl Try.func5 (by kernel_rfl) rfl #[.agg #[.slice A0_0 l0_0.length c0_0],.int .i64 1048576] rfl (by (try simp only [List.map_toArray,List.map_cons,List.map_nil]);first|done|rfl|(simp only [List.length_drop,List.length_take];rfl)) ?_;(with_reducible refine (laws_szTree.calls k _ _ l0_0 1048576 t372 _ ?side1 ?side2 A3.out).mono ?_);(case side1=>repeat (first|exact (Kd.C_below HR0_0.out HB.out)|(with_reducible refine Kd.C_alloc ?_ _)|(with_reducible refine Kd.C_drewN ?_ _)|(with_reducible refine Kd.C_drew ?_)));(case side2=>exact HC0_0.out);rintro e w24 ⟨rfl,hb⟩;refine ⟨_,rfl,?_⟩;have n0_:=Aside0.mk (blk_below (g:=gb370) (o:=.cells #[.slice A0_0 l0_0.length c0_0] 24 (0,0)) (by (with_reducible repeat (first|refine blk_drewN ?_ _|refine blk_drew ?_|refine blk_alloc ?_ _));exact BK370.out) hb);have n1_:=Aside0.mk (blk_below (g:=gb371) (o:=.cells #[.int .i64 a1_0,.int .i64 a1_1,.int .i64 a1_2,.int .i64 a1_3] 38 (0,0)) (by (with_reducible repeat (first|refine blk_drewN ?_ _|refine blk_drew ?_|refine blk_alloc ?_ _));exact BK371.out) hb);have n2_:=Aside0.mk (below_step (by repeat (first|exact HB.out|apply below_alloc|apply pw_below_drewN|apply below_drew1|refine below_set ?_ GE370.out|refine below_set ?_ GE371.out)) hb);clear BK370;clear BK371;clear HB;have BK370:=n0_;have BK371:=n1_;have HB:=n2_;clear n0_ n1_ n2_;(try clear hb);(try clear hb2);(try clear hk);(try clear hi)))
    have n0_:=Aside0.mk (blk_drew BK370.out)
    have n1_:=Aside0.mk (blk_drew BK371.out)
    have n2_:=Aside0.mk (below_drew1 HB.out)
    clear BK370
    clear BK371
    clear HB
    have BK370:=n0_
    have BK371:=n1_
    have HB:=n2_
    clear n0_ n1_ n2_
    refine start_ (n:=6) (S:=fun w'=>w'.cell? ⟨gb370,0,none⟩=some (.slice A0_0 l0_0.length c0_0)∧w'.cell? ⟨gb371,0,none⟩=some (.int .i64 a1_0)∧w'.cell? ⟨gb371,1,none⟩=some (.int .i64 a1_1)∧w'.cell? ⟨gb371,2,none⟩=some (.int .i64 a1_2)∧w'.cell? ⟨gb371,3,none⟩=some (.int .i64 a1_3)) (ds:=[]) #[false,false,false,false,false,false] (by kernel_rfl) rfl rfl ⟨(blk_cell BK370.out 0).trans rfl,(blk_cell BK371.out 0).trans rfl,(blk_cell BK371.out 1).trans rfl,(blk_cell BK371.out 2).trans rfl,(blk_cell BK371.out 3).trans rfl⟩ (fun hHeld=>?_)
    generalize w24.drew=w25 at BK370 BK371 HB hHeld ⊢
    refine take_ (i:=0) (N:=some 14) (v:=?_) (a':=?_) #[true,false,false,false,false,false] rfl rfl (by kernel_rfl) (fun _ _ _ h=>h) (Or.inl ⟨by rfl,?_⟩) hHeld ?_ ?_
    rotate_left
    ·rintro w' ⟨s0,s1,s2,s3,s4⟩
     go_simp
     with_reducible rfl
    rotate_left
    ·simp only [Act.put,List.setIfInBounds_toArray,List.set_cons_zero,List.set_cons_succ,i64_w,i32_w]
     rfl
    refine take_ (i:=2) (N:=some 16) (v:=?_) (a':=?_) #[true,false,true,false,false,false] rfl rfl (by kernel_rfl) (fun _ _ _ h=>h) (Or.inl ⟨by rfl,?_⟩) hHeld ?_ ?_
    rotate_left
    ·rintro w' ⟨s0,s1,s2,s3,s4⟩
     go_simp
     with_reducible rfl
    rotate_left
    ·simp only [Act.put,List.setIfInBounds_toArray,List.set_cons_zero,List.set_cons_succ,i64_w,i32_w]
     rfl
    refine one_ (i:=1) (N:=some 15) #[true,true,true,false,false,false] rfl rfl (by kernel_rfl) (by decide) (fun K hK=>?_)
    refine goes_ Try.func7 (by kernel_rfl) rfl #[.agg #[.slice A0_0 l0_0.length c0_0]] (by rfl) rfl rfl (by (try simp only [List.map_toArray,List.map_cons,List.map_nil]);first|done|rfl|(simp only [List.length_drop,List.length_take];rfl)) ?_
    with_reducible refine (laws_toTree.calls k _ _ l0_0 t373 _ ?side1 ?side2 A10.out).mono ?_
    (case side1=>repeat (first|exact (Kd.C_below HR0_0.out HB.out)|(with_reducible refine Kd.C_alloc ?_ _)|(with_reducible refine Kd.C_drewN ?_ _)|(with_reducible refine Kd.C_drew ?_)))
    (case side2=>exact HC0_0.out)
    rintro e w26 ⟨v374,rfl,ho0,hb⟩
    refine ⟨_,rfl,?_⟩
    have n0_:=Aside0.mk (Kd.S_lower ho0 (below_size (by repeat (first|exact HB.out|apply below_alloc|apply pw_below_drewN|apply below_drew1|refine below_set ?_ GE370.out|refine below_set ?_ GE371.out))))
    have n1_:=Aside0.mk (blk_below (g:=gb370) (o:=.cells #[.slice A0_0 l0_0.length c0_0] 24 (0,0)) (by (with_reducible repeat (first|refine blk_drewN ?_ _|refine blk_drew ?_|refine blk_alloc ?_ _));exact BK370.out) hb)
    have n2_:=Aside0.mk (blk_below (g:=gb371) (o:=.cells #[.int .i64 a1_0,.int .i64 a1_1,.int .i64 a1_2,.int .i64 a1_3] 38 (0,0)) (by (with_reducible repeat (first|refine blk_drewN ?_ _|refine blk_drew ?_|refine blk_alloc ?_ _));exact BK371.out) hb)
    have n3_:=Aside0.mk (below_step (by repeat (first|exact HB.out|apply below_alloc|apply pw_below_drewN|apply below_drew1|refine below_set ?_ GE370.out|refine below_set ?_ GE371.out)) hb)
    clear BK370
    clear BK371
    clear HB
    have HO375:=n0_
    have BK370:=n1_
    have BK371:=n2_
    have HB:=n3_
    clear n0_ n1_ n2_ n3_
    try clear hb
    try clear hb2
    try clear hk
    try clear hi
    try clear ho0
    refine hK.out _ _ ⟨(blk_cell BK370.out 0).trans rfl,(blk_cell BK371.out 0).trans rfl,(blk_cell BK371.out 1).trans rfl,(blk_cell BK371.out 2).trans rfl,(blk_cell BK371.out 3).trans rfl⟩ (fun hHeld=>?_)
    clear hK K
    refine norm_ (a':=?_) ?_ ?_
    rotate_left
    ·show Act.put _ (some 15) _=_
     simp only [Act.put,List.setIfInBounds_toArray,List.set_cons_zero,List.set_cons_succ,i64_w,i32_w]
     rfl
    refine one_ (i:=3) (N:=some 17) #[true,true,true,true,false,false] rfl rfl (by kernel_rfl) (by decide) (fun K hK=>?_)
    refine goes_ Try.func12 (by kernel_rfl) rfl #[.agg #[.int .i64 a1_0,.int .i64 a1_1,.int .i64 a1_2,.int .i64 a1_3]] (by rfl) rfl rfl (by (try simp only [List.map_toArray,List.map_cons,List.map_nil]);first|done|rfl|(simp only [List.length_drop,List.length_take];rfl)) ?_
    with_reducible refine (laws_toRange.calls a1_0 a1_1 a1_2 a1_3 t376 t377 t378 t379 _ A11.out).mono ?_
    rintro e w27 ⟨rfl,hb⟩
    refine ⟨_,rfl,?_⟩
    have n0_:=Aside0.mk (Kd.S_below (by (with_reducible repeat (first|apply Kd.S_alloc|apply Kd.S_drewN|apply Kd.S_drew));exact HO375.out) hb)
    have n1_:=Aside0.mk (blk_below (g:=gb370) (o:=.cells #[.slice A0_0 l0_0.length c0_0] 24 (0,0)) (by (with_reducible repeat (first|refine blk_drewN ?_ _|refine blk_drew ?_|refine blk_alloc ?_ _));exact BK370.out) hb)
    have n2_:=Aside0.mk (blk_below (g:=gb371) (o:=.cells #[.int .i64 a1_0,.int .i64 a1_1,.int .i64 a1_2,.int .i64 a1_3] 38 (0,0)) (by (with_reducible repeat (first|refine blk_drewN ?_ _|refine blk_drew ?_|refine blk_alloc ?_ _));exact BK371.out) hb)
    have n3_:=Aside0.mk (below_step (by repeat (first|exact HB.out|apply below_alloc|apply pw_below_drewN|apply below_drew1|refine below_set ?_ GE370.out|refine below_set ?_ GE371.out)) hb)
    clear HO375
    clear BK370
    clear BK371
    clear HB
    have HO375:=n0_
    have BK370:=n1_
    have BK371:=n2_
    have HB:=n3_
    clear n0_ n1_ n2_ n3_
    try clear hb
    obtain ⟨Ao28,co28,eo28⟩:=Kd.S_slice HO375.out
    (first|subst eo28|(injection eo28 with f1_ f2_ f3_;have f4_:=f1_.symm;have f5_:=f3_.symm;clear f1_ f2_ f3_;subst f4_;subst f5_))
    refine hK.out _ _ ⟨(blk_cell BK370.out 0).trans rfl,(blk_cell BK371.out 0).trans rfl,(blk_cell BK371.out 1).trans rfl,(blk_cell BK371.out 2).trans rfl,(blk_cell BK371.out 3).trans rfl⟩ (fun hHeld=>?_)
    clear hK K
    refine norm_ (a':=?_) ?_ ?_
    rotate_left
    ·show Act.put _ (some 17) _=_
     simp only [Act.put,List.setIfInBounds_toArray,List.set_cons_zero,List.set_cons_succ,i64_w,i32_w]
     rfl
    refine one_ (i:=4) (N:=some 18) #[true,true,true,true,true,false] rfl rfl (by kernel_rfl) (by decide) (fun K hK=>?_)
    refine goes_ Try.func11 (by kernel_rfl) rfl #[.agg #[.slice Ao28 t373.length co28],.agg #[.int .i64 t376,.int .i64 t377,.int .i64 t378,.int .i64 t379]] (by rfl) rfl rfl (by (try simp only [List.map_toArray,List.map_cons,List.map_nil]);first|done|rfl|(simp only [List.length_drop,List.length_take];rfl)) ?_
    with_reducible refine (spec_RangeText.calls k _ _ t373 t376 t377 t378 t379 t380 _ ?side1 ?side2 A12.out).mono ?_
    (case side1=>repeat (first|exact (Kd.S_reads' HO375.out).2.2|(with_reducible refine Kd.C_alloc ?_ _)|(with_reducible refine Kd.C_drewN ?_ _)|(with_reducible refine Kd.C_drew ?_)))
    (case side2=>exact (Kd.S_reads' HO375.out).2.1)
    rintro e w29 ⟨rfl,hb⟩
    refine ⟨_,rfl,?_⟩
    have n0_:=Aside0.mk (Kd.S_below (by (with_reducible repeat (first|apply Kd.S_alloc|apply Kd.S_drewN|apply Kd.S_drew));exact HO375.out) hb)
    have n1_:=Aside0.mk (blk_below (g:=gb370) (o:=.cells #[.slice A0_0 l0_0.length c0_0] 24 (0,0)) (by (with_reducible repeat (first|refine blk_drewN ?_ _|refine blk_drew ?_|refine blk_alloc ?_ _));exact BK370.out) hb)
    have n2_:=Aside0.mk (blk_below (g:=gb371) (o:=.cells #[.int .i64 a1_0,.int .i64 a1_1,.int .i64 a1_2,.int .i64 a1_3] 38 (0,0)) (by (with_reducible repeat (first|refine blk_drewN ?_ _|refine blk_drew ?_|refine blk_alloc ?_ _));exact BK371.out) hb)
    have n3_:=Aside0.mk (below_step (by repeat (first|exact HB.out|apply below_alloc|apply pw_below_drewN|apply below_drew1|refine below_set ?_ GE370.out|refine below_set ?_ GE371.out)) hb)
    clear HO375
    clear BK370
    clear BK371
    clear HB
    have HO375:=n0_
    have BK370:=n1_
    have BK371:=n2_
    have HB:=n3_
    clear n0_ n1_ n2_ n3_
    try clear hb
    refine hK.out _ _ ⟨(blk_cell BK370.out 0).trans rfl,(blk_cell BK371.out 0).trans rfl,(blk_cell BK371.out 1).trans rfl,(blk_cell BK371.out 2).trans rfl,(blk_cell BK371.out 3).trans rfl⟩ (fun hHeld=>?_)
    clear hK K
    refine norm_ (a':=?_) ?_ ?_
    rotate_left
    ·show Act.put _ (some 18) _=_
     simp only [Act.put,List.setIfInBounds_toArray,List.set_cons_zero,List.set_cons_succ,i64_w,i32_w]
     rfl
    refine pure_ (i:=5) (N:=some 6) (v:=?_) (a':=?_) #[true,true,true,true,true,true] rfl rfl (by kernel_rfl) (fun _ _ _ h=>h) (Or.inl ⟨by rfl,?_⟩) ?_ ?_
    rotate_left
    ·intro w'
     go_simp
     with_reducible rfl
    rotate_left
    ·simp only [Act.put,List.setIfInBounds_toArray,List.set_cons_zero,List.set_cons_succ,i64_w,i32_w]
     rfl
    refine done_ (by kernel_rfl) ?_
    have hcz30_0:w29.cell? ⟨gb370,0,none⟩=some (.slice A0_0 l0_0.length c0_0):=(blk_cell BK370.out 0).trans rfl
    have hfz30_0:=blk_frozen BK370.out 0
    try go_wp2_with (first|((with_reducible refine gate_callee (f:=7) rfl ?_);refine goesL_ (some 20) rfl rfl Try.func7 (by kernel_rfl) rfl #[.agg #[.slice A0_0 l0_0.length c0_0]] rfl (by (try simp only [List.map_toArray,List.map_cons,List.map_nil]);first|done|rfl|(simp only [List.length_drop,List.length_take];rfl)) ?_;(with_reducible refine (laws_toTree.calls k _ _ l0_0 t381 _ ?side1 ?side2 A13.out).mono ?_);(case side1=>repeat (first|exact (Kd.C_below HR0_0.out HB.out)|(with_reducible refine Kd.C_alloc ?_ _)|(with_reducible refine Kd.C_drewN ?_ _)|(with_reducible refine Kd.C_drew ?_)));(case side2=>exact HC0_0.out);rintro e w31 ⟨v382,rfl,ho0,hb⟩;refine ⟨_,rfl,?_⟩;have n0_:=Aside0.mk (Kd.S_elder' (by (with_reducible repeat (first|apply Kd.S_alloc|apply Kd.S_drewN|apply Kd.S_drew));exact HO375.out) (Kd.S_base ho0) hb);have n1_:=Aside0.mk (Kd.S_lower (Kd.S_new' ho0 (Kd.S_lt (by (with_reducible repeat (first|apply Kd.S_alloc|apply Kd.S_drewN|apply Kd.S_drew));exact HO375.out))) (below_size (by repeat (first|exact HB.out|apply below_alloc|apply pw_below_drewN|apply below_drew1|refine below_set ?_ GE370.out|refine below_set ?_ GE371.out))));have n2_:=Aside0.mk (blk_below (g:=gb370) (o:=.cells #[.slice A0_0 l0_0.length c0_0] 24 (0,0)) (by (with_reducible repeat (first|refine blk_drewN ?_ _|refine blk_drew ?_|refine blk_alloc ?_ _));exact BK370.out) hb);have n3_:=Aside0.mk (blk_below (g:=gb371) (o:=.cells #[.int .i64 a1_0,.int .i64 a1_1,.int .i64 a1_2,.int .i64 a1_3] 38 (0,0)) (by (with_reducible repeat (first|refine blk_drewN ?_ _|refine blk_drew ?_|refine blk_alloc ?_ _));exact BK371.out) hb);have n4_:=Aside0.mk (below_step (by repeat (first|exact HB.out|apply below_alloc|apply pw_below_drewN|apply below_drew1|refine below_set ?_ GE370.out|refine below_set ?_ GE371.out)) hb);clear HO375;clear BK370;clear BK371;clear HB;have HO375:=n0_;have HO383:=n1_;have BK370:=n2_;have BK371:=n3_;have HB:=n4_;clear n0_ n1_ n2_ n3_ n4_;(try clear hb);(try clear hb2);(try clear hk);(try clear hi);(try clear ho0))|((with_reducible refine gate_dst (N:=7) rfl ?_);refine box_event rfl (N:=7) rfl (cs:=#[.slice none 0 0]) (t:=31) ?hr ?_;(case hr=>first|(go_simp;done)|(go_simp;rfl));intro gb384 hg w32 hbox hb;have n0_:=Aside0.mk (Kd.S_below (by (with_reducible repeat (first|apply Kd.S_alloc|apply Kd.S_drewN|apply Kd.S_drew));exact HO375.out) hb);have n1_:=Aside0.mk (Kd.S_below (by (with_reducible repeat (first|apply Kd.S_alloc|apply Kd.S_drewN|apply Kd.S_drew));exact HO383.out) hb);have n2_:=Aside0.mk (blk_below (g:=gb370) (o:=.cells #[.slice A0_0 l0_0.length c0_0] 24 (0,0)) (by (with_reducible repeat (first|refine blk_drewN ?_ _|refine blk_drew ?_|refine blk_alloc ?_ _));exact BK370.out) hb);have n3_:=Aside0.mk (blk_below (g:=gb371) (o:=.cells #[.int .i64 a1_0,.int .i64 a1_1,.int .i64 a1_2,.int .i64 a1_3] 38 (0,0)) (by (with_reducible repeat (first|refine blk_drewN ?_ _|refine blk_drew ?_|refine blk_alloc ?_ _));exact BK371.out) hb);have n4_:=Aside0.mk (below_step (by repeat (first|exact HB.out|apply below_alloc|apply pw_below_drewN|apply below_drew1|refine below_set ?_ GE370.out|refine below_set ?_ GE371.out)) hb);have n5_:=Aside0.mk (hbox);have n6_:=Aside0.mk ((by rw [hg];exact (below_size (by repeat (first|exact HB.out|apply below_alloc|apply pw_below_drewN|apply below_drew1|refine below_set ?_ GE370.out|refine below_set ?_ GE371.out))):w.heap.size≤gb384));have n7_:=Aside0.mk ((by rw [hg];exact (below_size (by repeat (first|exact HB.out|apply below_alloc|apply pw_below_drewN|apply below_drew1|refine below_set ?_ GE370.out|refine below_set ?_ GE371.out))):w.heap.size≤gb384));have n8_:=Aside0.mk ((by rw [hg];exact Nat.ne_of_lt (blk_lt (g:=gb370) (o:=.cells #[.slice A0_0 l0_0.length c0_0] 24 (0,0)) (by (with_reducible repeat (first|refine blk_drewN ?_ _|refine blk_drew ?_|refine blk_alloc ?_ _));exact BK370.out)):gb370≠gb384));have n9_:=Aside0.mk ((by rw [hg];exact Nat.ne_of_gt (blk_lt (g:=gb370) (o:=.cells #[.slice A0_0 l0_0.length c0_0] 24 (0,0)) (by (with_reducible repeat (first|refine blk_drewN ?_ _|refine blk_drew ?_|refine blk_alloc ?_ _));exact BK370.out)):gb384≠gb370));have n10_:=Aside0.mk ((by rw [hg];exact Nat.ne_of_lt (blk_lt (g:=gb371) (o:=.cells #[.int .i64 a1_0,.int .i64 a1_1,.int .i64 a1_2,.int .i64 a1_3] 38 (0,0)) (by (with_reducible repeat (first|refine blk_drewN ?_ _|refine blk_drew ?_|refine blk_alloc ?_ _));exact BK371.out)):gb371≠gb384));have n11_:=Aside0.mk ((by rw [hg];exact Nat.ne_of_gt (blk_lt (g:=gb371) (o:=.cells #[.int .i64 a1_0,.int .i64 a1_1,.int .i64 a1_2,.int .i64 a1_3] 38 (0,0)) (by (with_reducible repeat (first|refine blk_drewN ?_ _|refine blk_drew ?_|refine blk_alloc ?_ _));exact BK371.out)):gb384≠gb371));clear HO375;clear HO383;clear BK370;clear BK371;clear HB;have HO375:=n0_;have HO383:=n1_;have BK370:=n2_;have BK371:=n3_;have HB:=n4_;have BK384:=n5_;have GW384:=n6_;have GE384:=n7_;have NB370_384:=n8_;have NB384_370:=n9_;have NB371_384:=n10_;have NB384_371:=n11_;clear n0_ n1_ n2_ n3_ n4_ n5_ n6_ n7_ n8_ n9_ n10_ n11_;clear hb hbox hg;obtain ⟨Ao33,co33,eo33⟩:=Kd.S_slice HO383.out;subst eo33;have hnb34:=NB384_370.out;have hnc34:=NB370_384.out;have hnb35:=NB384_371.out;have hnc35:=NB371_384.out;have hcz36_0:w32.cell? ⟨gb384,0,none⟩=some (.slice none 0 0):=(blk_cell BK384.out 0).trans rfl;have hfz36_0:=blk_frozen BK384.out 0))
    have n0_:Aside0 (Kd.S k59 59 (w32.setCell ⟨gb384,0,none⟩ (.slice Ao33 t381.length co33)) w.heap.size (fun k_=>some k_≠(.slice Ao33 t381.length co33:Value).ownBlock) (.slice Ao28 t373.length co28) t373):=⟨by (with_reducible repeat (first|apply Kd.S_alloc|apply Kd.S_drewN|apply Kd.S_drew));exact Kd.S_mono (Kd.S_far (p:=⟨gb384,0,none⟩) (Kd.S_types HO375.out BK384.out (by decide)) (fun _ hk=>hk.2) (.slice Ao33 t381.length co33)) (fun _ hk=>hk.1.2)⟩
    have n1_:Aside0 (Kd.S k59 59 (w32.setCell ⟨gb384,0,none⟩ (.slice Ao33 t381.length co33)) w.heap.size (fun k_=>some k_≠(.slice Ao28 t373.length co28:Value).ownBlock) (.slice Ao33 t381.length co33) t381):=⟨by (with_reducible repeat (first|apply Kd.S_alloc|apply Kd.S_drewN|apply Kd.S_drew));exact Kd.S_mono (Kd.S_far (p:=⟨gb384,0,none⟩) (Kd.S_types HO383.out BK384.out (by decide)) (fun _ hk=>hk.2) (.slice Ao33 t381.length co33)) (fun _ hk=>hk.1.2)⟩
    have n2_:Aside0 ((w32.setCell ⟨gb384,0,none⟩ (.slice Ao33 t381.length co33)).heap[gb370]?=some (.cells #[.slice A0_0 l0_0.length c0_0] 24 (0,0))):=⟨by (with_reducible repeat (first|refine blk_drewN ?_ _|refine blk_drew ?_|refine blk_alloc ?_ _));refine blk_far ?_ NB370_384.out _;(with_reducible repeat (first|refine blk_drewN ?_ _|refine blk_drew ?_|refine blk_alloc ?_ _));exact BK370.out⟩
    have n3_:Aside0 ((w32.setCell ⟨gb384,0,none⟩ (.slice Ao33 t381.length co33)).heap[gb371]?=some (.cells #[.int .i64 a1_0,.int .i64 a1_1,.int .i64 a1_2,.int .i64 a1_3] 38 (0,0))):=⟨by (with_reducible repeat (first|refine blk_drewN ?_ _|refine blk_drew ?_|refine blk_alloc ?_ _));refine blk_far ?_ NB371_384.out _;(with_reducible repeat (first|refine blk_drewN ?_ _|refine blk_drew ?_|refine blk_alloc ?_ _));exact BK371.out⟩
    have n4_:Aside0 ((w32.setCell ⟨gb384,0,none⟩ (.slice Ao33 t381.length co33)).heap[gb384]?=some (.cells #[.slice Ao33 t381.length co33] 31 (0,0))):=⟨by (with_reducible repeat (first|refine blk_drewN ?_ _|refine blk_drew ?_|refine blk_alloc ?_ _));refine blk_put (cs:=#[.slice none 0 0]) ?_ 0 _ rfl;(with_reducible repeat (first|refine blk_drewN ?_ _|refine blk_drew ?_|refine blk_alloc ?_ _));exact BK384.out⟩
    have n5_:Aside0 (Below w.heap.size w (w32.setCell ⟨gb384,0,none⟩ (.slice Ao33 t381.length co33))):=⟨by repeat (first|exact HB.out|apply below_alloc|apply pw_below_drewN|apply below_drew1|refine below_set ?_ GE370.out|refine below_set ?_ GE371.out|refine below_set ?_ GE384.out)⟩
    try clear HO375
    try clear HO383
    try clear BK370
    try clear BK371
    try clear BK384
    try clear HB
    generalize (w32.setCell ⟨gb384,0,none⟩ (.slice Ao33 t381.length co33))=w37 at n0_ n1_ n2_ n3_ n4_ n5_ ⊢
    have HO375:=n0_
    have HO383:=n1_
    have BK370:=n2_
    have BK371:=n3_
    have BK384:=n4_
    have HB:=n5_
    clear n0_ n1_ n2_ n3_ n4_ n5_
    have n0_:=Aside0.mk (Kd.S_drew HO375.out)
    have n1_:=Aside0.mk (Kd.S_drew HO383.out)
    have n2_:=Aside0.mk (blk_drew BK370.out)
    have n3_:=Aside0.mk (blk_drew BK371.out)
    have n4_:=Aside0.mk (blk_drew BK384.out)
    have n5_:=Aside0.mk (below_drew1 HB.out)
    clear HO375
    clear HO383
    clear BK370
    clear BK371
    clear BK384
    clear HB
    have HO375:=n0_
    have HO383:=n1_
    have BK370:=n2_
    have BK371:=n3_
    have BK384:=n4_
    have HB:=n5_
    clear n0_ n1_ n2_ n3_ n4_ n5_
    refine start_ (n:=5) (S:=fun w'=>w'.cell? ⟨gb384,0,none⟩=some (.slice Ao33 t381.length co33)∧w'.cell? ⟨gb371,0,none⟩=some (.int .i64 a1_0)∧w'.cell? ⟨gb371,1,none⟩=some (.int .i64 a1_1)∧w'.cell? ⟨gb371,2,none⟩=some (.int .i64 a1_2)∧w'.cell? ⟨gb371,3,none⟩=some (.int .i64 a1_3)) (ds:=[]) #[false,false,false,false,false] (by kernel_rfl) rfl rfl ⟨(blk_cell BK384.out 0).trans rfl,(blk_cell BK371.out 0).trans rfl,(blk_cell BK371.out 1).trans rfl,(blk_cell BK371.out 2).trans rfl,(blk_cell BK371.out 3).trans rfl⟩ (fun hHeld=>?_)
    generalize w37.drew=w38 at HO375 HO383 BK370 BK371 BK384 HB hHeld ⊢
    refine take_ (i:=0) (N:=some 21) (v:=?_) (a':=?_) #[true,false,false,false,false] rfl rfl (by kernel_rfl) (fun _ _ _ h=>h) (Or.inl ⟨by rfl,?_⟩) hHeld ?_ ?_
    rotate_left
    ·rintro w' ⟨s0,s1,s2,s3,s4⟩
     go_simp
     with_reducible rfl
    rotate_left
    ·simp only [Act.put,List.setIfInBounds_toArray,List.set_cons_zero,List.set_cons_succ,i64_w,i32_w]
     rfl
    refine take_ (i:=1) (N:=some 22) (v:=?_) (a':=?_) #[true,true,false,false,false] rfl rfl (by kernel_rfl) (fun _ _ _ h=>h) (Or.inl ⟨by rfl,?_⟩) hHeld ?_ ?_
    rotate_left
    ·rintro w' ⟨s0,s1,s2,s3,s4⟩
     go_simp
     with_reducible rfl
    rotate_left
    ·simp only [Act.put,List.setIfInBounds_toArray,List.set_cons_zero,List.set_cons_succ,i64_w,i32_w]
     rfl
    refine one_ (i:=2) (N:=some 23) #[true,true,true,false,false] rfl rfl (by kernel_rfl) (by decide) (fun K hK=>?_)
    refine goes_ Try.func12 (by kernel_rfl) rfl #[.agg #[.int .i64 a1_0,.int .i64 a1_1,.int .i64 a1_2,.int .i64 a1_3]] (by rfl) rfl rfl (by (try simp only [List.map_toArray,List.map_cons,List.map_nil]);first|done|rfl|(simp only [List.length_drop,List.length_take];rfl)) ?_
    with_reducible refine (laws_toRange.calls a1_0 a1_1 a1_2 a1_3 t385 t386 t387 t388 _ A14.out).mono ?_
    rintro e w39 ⟨rfl,hb⟩
    refine ⟨_,rfl,?_⟩
    have n0_:=Aside0.mk (Kd.S_below (by (with_reducible repeat (first|apply Kd.S_alloc|apply Kd.S_drewN|apply Kd.S_drew));exact HO375.out) hb)
    have n1_:=Aside0.mk (Kd.S_below (by (with_reducible repeat (first|apply Kd.S_alloc|apply Kd.S_drewN|apply Kd.S_drew));exact HO383.out) hb)
    have n2_:=Aside0.mk (blk_below (g:=gb370) (o:=.cells #[.slice A0_0 l0_0.length c0_0] 24 (0,0)) (by (with_reducible repeat (first|refine blk_drewN ?_ _|refine blk_drew ?_|refine blk_alloc ?_ _));exact BK370.out) hb)
    have n3_:=Aside0.mk (blk_below (g:=gb371) (o:=.cells #[.int .i64 a1_0,.int .i64 a1_1,.int .i64 a1_2,.int .i64 a1_3] 38 (0,0)) (by (with_reducible repeat (first|refine blk_drewN ?_ _|refine blk_drew ?_|refine blk_alloc ?_ _));exact BK371.out) hb)
    have n4_:=Aside0.mk (blk_below (g:=gb384) (o:=.cells #[.slice Ao33 t381.length co33] 31 (0,0)) (by (with_reducible repeat (first|refine blk_drewN ?_ _|refine blk_drew ?_|refine blk_alloc ?_ _));exact BK384.out) hb)
    have n5_:=Aside0.mk (below_step (by repeat (first|exact HB.out|apply below_alloc|apply pw_below_drewN|apply below_drew1|refine below_set ?_ GE370.out|refine below_set ?_ GE371.out|refine below_set ?_ GE384.out)) hb)
    clear HO375
    clear HO383
    clear BK370
    clear BK371
    clear BK384
    clear HB
    have HO375:=n0_
    have HO383:=n1_
    have BK370:=n2_
    have BK371:=n3_
    have BK384:=n4_
    have HB:=n5_
    clear n0_ n1_ n2_ n3_ n4_ n5_
    try clear hb
    try clear hb2
    try clear hk
    try clear hi
    refine hK.out _ _ ⟨(blk_cell BK384.out 0).trans rfl,(blk_cell BK371.out 0).trans rfl,(blk_cell BK371.out 1).trans rfl,(blk_cell BK371.out 2).trans rfl,(blk_cell BK371.out 3).trans rfl⟩ (fun hHeld=>?_)
    clear hK K
    refine norm_ (a':=?_) ?_ ?_
    rotate_left
    ·show Act.put _ (some 23) _=_
     simp only [Act.put,List.setIfInBounds_toArray,List.set_cons_zero,List.set_cons_succ,i64_w,i32_w]
     rfl
    refine one_ (i:=3) (N:=some 24) #[true,true,true,true,false] rfl rfl (by kernel_rfl) (by decide) (fun K hK=>?_)
    refine goes_ Try.func13 (by kernel_rfl) rfl #[.agg #[.slice Ao33 t381.length co33],.agg #[.int .i64 t385,.int .i64 t386,.int .i64 t387,.int .i64 t388]] (by rfl) rfl rfl (by (try simp only [List.map_toArray,List.map_cons,List.map_nil]);first|done|rfl|(simp only [List.length_drop,List.length_take];rfl)) ?_
    with_reducible refine (impl_RangeText.calls k _ _ t381 t385 t386 t387 t388 t389 _ ?side1 ?side2 A15.out).mono ?_
    (case side1=>repeat (first|exact (Kd.S_reads' HO383.out).2.2|(with_reducible refine Kd.C_alloc ?_ _)|(with_reducible refine Kd.C_drewN ?_ _)|(with_reducible refine Kd.C_drew ?_)))
    (case side2=>exact (Kd.S_reads' HO383.out).2.1)
    rintro e w40 ⟨rfl,hb⟩
    refine ⟨_,rfl,?_⟩
    have n0_:=Aside0.mk (Kd.S_below (by (with_reducible repeat (first|apply Kd.S_alloc|apply Kd.S_drewN|apply Kd.S_drew));exact HO375.out) hb)
    have n1_:=Aside0.mk (Kd.S_below (by (with_reducible repeat (first|apply Kd.S_alloc|apply Kd.S_drewN|apply Kd.S_drew));exact HO383.out) hb)
    have n2_:=Aside0.mk (blk_below (g:=gb370) (o:=.cells #[.slice A0_0 l0_0.length c0_0] 24 (0,0)) (by (with_reducible repeat (first|refine blk_drewN ?_ _|refine blk_drew ?_|refine blk_alloc ?_ _));exact BK370.out) hb)
    have n3_:=Aside0.mk (blk_below (g:=gb371) (o:=.cells #[.int .i64 a1_0,.int .i64 a1_1,.int .i64 a1_2,.int .i64 a1_3] 38 (0,0)) (by (with_reducible repeat (first|refine blk_drewN ?_ _|refine blk_drew ?_|refine blk_alloc ?_ _));exact BK371.out) hb)
    have n4_:=Aside0.mk (blk_below (g:=gb384) (o:=.cells #[.slice Ao33 t381.length co33] 31 (0,0)) (by (with_reducible repeat (first|refine blk_drewN ?_ _|refine blk_drew ?_|refine blk_alloc ?_ _));exact BK384.out) hb)
    have n5_:=Aside0.mk (below_step (by repeat (first|exact HB.out|apply below_alloc|apply pw_below_drewN|apply below_drew1|refine below_set ?_ GE370.out|refine below_set ?_ GE371.out|refine below_set ?_ GE384.out)) hb)
    clear HO375
    clear HO383
    clear BK370
    clear BK371
    clear BK384
    clear HB
    have HO375:=n0_
    have HO383:=n1_
    have BK370:=n2_
    have BK371:=n3_
    have BK384:=n4_
    have HB:=n5_
    clear n0_ n1_ n2_ n3_ n4_ n5_
    try clear hb
    refine hK.out _ _ ⟨(blk_cell BK384.out 0).trans rfl,(blk_cell BK371.out 0).trans rfl,(blk_cell BK371.out 1).trans rfl,(blk_cell BK371.out 2).trans rfl,(blk_cell BK371.out 3).trans rfl⟩ (fun hHeld=>?_)
    clear hK K
    refine norm_ (a':=?_) ?_ ?_
    rotate_left
    ·show Act.put _ (some 24) _=_
     simp only [Act.put,List.setIfInBounds_toArray,List.set_cons_zero,List.set_cons_succ,i64_w,i32_w]
     rfl
    refine pure_ (i:=4) (N:=some 8) (v:=?_) (a':=?_) #[true,true,true,true,true] rfl rfl (by kernel_rfl) (fun _ _ _ h=>h) (Or.inl ⟨by rfl,?_⟩) ?_ ?_
    rotate_left
    ·intro w'
     go_simp
     with_reducible rfl
    rotate_left
    ·simp only [Act.put,List.setIfInBounds_toArray,List.set_cons_zero,List.set_cons_succ,i64_w,i32_w]
     rfl
    refine done_ (by kernel_rfl) ?_
    try go_wp2
    have n0_:=Aside0.mk (Kd.S_drew HO375.out)
    have n1_:=Aside0.mk (Kd.S_drew HO383.out)
    have n2_:=Aside0.mk (blk_drew BK370.out)
    have n3_:=Aside0.mk (blk_drew BK371.out)
    have n4_:=Aside0.mk (blk_drew BK384.out)
    have n5_:=Aside0.mk (below_drew1 HB.out)
    clear HO375
    clear HO383
    clear BK370
    clear BK371
    clear BK384
    clear HB
    have HO375:=n0_
    have HO383:=n1_
    have BK370:=n2_
    have BK371:=n3_
    have BK384:=n4_
    have HB:=n5_
    clear n0_ n1_ n2_ n3_ n4_ n5_
    refine start_ (n:=5) (S:=fun w'=>w'.cell? ⟨gb384,0,none⟩=some (.slice Ao33 t381.length co33)∧w'.cell? ⟨gb370,0,none⟩=some (.slice A0_0 l0_0.length c0_0)) (ds:=[]) #[false,false,false,false,false] (by kernel_rfl) rfl rfl ⟨(blk_cell BK384.out 0).trans rfl,(blk_cell BK370.out 0).trans rfl⟩ (fun hHeld=>?_)
    generalize w40.drew=w41 at HO375 HO383 BK370 BK371 BK384 HB hHeld ⊢
    refine take_ (i:=0) (N:=some 28) (v:=?_) (a':=?_) #[true,false,false,false,false] rfl rfl (by kernel_rfl) (fun _ _ _ h=>h) (Or.inl ⟨by rfl,?_⟩) hHeld ?_ ?_
    rotate_left
    ·rintro w' ⟨s0,s1⟩
     go_simp
     with_reducible rfl
    rotate_left
    ·simp only [Act.put,List.setIfInBounds_toArray,List.set_cons_zero,List.set_cons_succ,i64_w,i32_w]
     rfl
    refine take_ (i:=1) (N:=some 29) (v:=?_) (a':=?_) #[true,true,false,false,false] rfl rfl (by kernel_rfl) (fun _ _ _ h=>h) (Or.inl ⟨by rfl,?_⟩) hHeld ?_ ?_
    rotate_left
    ·rintro w' ⟨s0,s1⟩
     go_simp
     with_reducible rfl
    rotate_left
    ·simp only [Act.put,List.setIfInBounds_toArray,List.set_cons_zero,List.set_cons_succ,i64_w,i32_w]
     rfl
    refine one_ (i:=2) (N:=some 30) #[true,true,true,false,false] rfl rfl (by kernel_rfl) (by decide) (fun K hK=>?_)
    refine goes_ Try.func7 (by kernel_rfl) rfl #[.agg #[.slice A0_0 l0_0.length c0_0]] (by rfl) rfl rfl (by (try simp only [List.map_toArray,List.map_cons,List.map_nil]);first|done|rfl|(simp only [List.length_drop,List.length_take];rfl)) ?_
    with_reducible refine (laws_toTree.calls k _ _ l0_0 t390 _ ?side1 ?side2 A17.out).mono ?_
    (case side1=>repeat (first|exact (Kd.C_below HR0_0.out HB.out)|(with_reducible refine Kd.C_alloc ?_ _)|(with_reducible refine Kd.C_drewN ?_ _)|(with_reducible refine Kd.C_drew ?_)))
    (case side2=>exact HC0_0.out)
    rintro e w42 ⟨v391,rfl,ho0,hb⟩
    refine ⟨_,rfl,?_⟩
    have n0_:=Aside0.mk (Kd.S_elder' (by (with_reducible repeat (first|apply Kd.S_alloc|apply Kd.S_drewN|apply Kd.S_drew));exact HO375.out) (Kd.S_base ho0) hb)
    have n1_:=Aside0.mk (Kd.S_elder' (by (with_reducible repeat (first|apply Kd.S_alloc|apply Kd.S_drewN|apply Kd.S_drew));exact HO383.out) (Kd.S_base ho0) hb)
    have n2_:=Aside0.mk (Kd.S_lower (Kd.S_new' (Kd.S_new' ho0 (Kd.S_lt (by (with_reducible repeat (first|apply Kd.S_alloc|apply Kd.S_drewN|apply Kd.S_drew));exact HO375.out))) (Kd.S_lt (by (with_reducible repeat (first|apply Kd.S_alloc|apply Kd.S_drewN|apply Kd.S_drew));exact HO383.out))) (below_size (by repeat (first|exact HB.out|apply below_alloc|apply pw_below_drewN|apply below_drew1|refine below_set ?_ GE370.out|refine below_set ?_ GE371.out|refine below_set ?_ GE384.out))))
    have n3_:=Aside0.mk (blk_below (g:=gb370) (o:=.cells #[.slice A0_0 l0_0.length c0_0] 24 (0,0)) (by (with_reducible repeat (first|refine blk_drewN ?_ _|refine blk_drew ?_|refine blk_alloc ?_ _));exact BK370.out) hb)
    have n4_:=Aside0.mk (blk_below (g:=gb371) (o:=.cells #[.int .i64 a1_0,.int .i64 a1_1,.int .i64 a1_2,.int .i64 a1_3] 38 (0,0)) (by (with_reducible repeat (first|refine blk_drewN ?_ _|refine blk_drew ?_|refine blk_alloc ?_ _));exact BK371.out) hb)
    have n5_:=Aside0.mk (blk_below (g:=gb384) (o:=.cells #[.slice Ao33 t381.length co33] 31 (0,0)) (by (with_reducible repeat (first|refine blk_drewN ?_ _|refine blk_drew ?_|refine blk_alloc ?_ _));exact BK384.out) hb)
    have n6_:=Aside0.mk (below_step (by repeat (first|exact HB.out|apply below_alloc|apply pw_below_drewN|apply below_drew1|refine below_set ?_ GE370.out|refine below_set ?_ GE371.out|refine below_set ?_ GE384.out)) hb)
    clear HO375
    clear HO383
    clear BK370
    clear BK371
    clear BK384
    clear HB
    have HO375:=n0_
    have HO383:=n1_
    have HO392:=n2_
    have BK370:=n3_
    have BK371:=n4_
    have BK384:=n5_
    have HB:=n6_
    clear n0_ n1_ n2_ n3_ n4_ n5_ n6_
    try clear hb
    try clear ho0
    obtain ⟨Ao43,co43,eo43⟩:=Kd.S_slice HO392.out
    (first|subst eo43|(injection eo43 with f1_ f2_ f3_;have f4_:=f1_.symm;have f5_:=f3_.symm;clear f1_ f2_ f3_;subst f4_;subst f5_))
    refine hK.out _ _ ⟨(blk_cell BK384.out 0).trans rfl,(blk_cell BK370.out 0).trans rfl⟩ (fun hHeld=>?_)
    clear hK K
    refine norm_ (a':=?_) ?_ ?_
    rotate_left
    ·show Act.put _ (some 30) _=_
     simp only [Act.put,List.setIfInBounds_toArray,List.set_cons_zero,List.set_cons_succ,i64_w,i32_w]
     rfl
    refine one_ (i:=3) (N:=some 31) #[true,true,true,true,false] rfl rfl (by kernel_rfl) (by decide) (fun K hK=>?_)
    refine goes_ Try.func10 (by kernel_rfl) rfl #[.agg #[.slice Ao33 t381.length co33],.agg #[.slice Ao43 t390.length co43]] (by rfl) rfl rfl (by (try simp only [List.map_toArray,List.map_cons,List.map_nil]);first|done|rfl|(simp only [List.length_drop,List.length_take];rfl)) ?_
    with_reducible refine (laws_eqTree.calls k _ _ t381 _ _ t390 true _ ?side1 ?side2 ?side3 ?side4 A18.out).mono ?_
    (case side1=>repeat (first|exact (Kd.S_reads' HO383.out).2.2|(with_reducible refine Kd.C_alloc ?_ _)|(with_reducible refine Kd.C_drewN ?_ _)|(with_reducible refine Kd.C_drew ?_)))
    (case side2=>exact (Kd.S_reads' HO383.out).2.1)
    (case side3=>repeat (first|exact (Kd.S_reads' HO392.out).2.2|(with_reducible refine Kd.C_alloc ?_ _)|(with_reducible refine Kd.C_drewN ?_ _)|(with_reducible refine Kd.C_drew ?_)))
    (case side4=>exact (Kd.S_reads' HO392.out).2.1)
    rintro e w44 ⟨rfl,hb⟩
    refine ⟨_,rfl,?_⟩
    have n0_:=Aside0.mk (Kd.S_below (by (with_reducible repeat (first|apply Kd.S_alloc|apply Kd.S_drewN|apply Kd.S_drew));exact HO375.out) hb)
    have n1_:=Aside0.mk (Kd.S_below (by (with_reducible repeat (first|apply Kd.S_alloc|apply Kd.S_drewN|apply Kd.S_drew));exact HO383.out) hb)
    have n2_:=Aside0.mk (Kd.S_below (by (with_reducible repeat (first|apply Kd.S_alloc|apply Kd.S_drewN|apply Kd.S_drew));exact HO392.out) hb)
    have n3_:=Aside0.mk (blk_below (g:=gb370) (o:=.cells #[.slice A0_0 l0_0.length c0_0] 24 (0,0)) (by (with_reducible repeat (first|refine blk_drewN ?_ _|refine blk_drew ?_|refine blk_alloc ?_ _));exact BK370.out) hb)
    have n4_:=Aside0.mk (blk_below (g:=gb371) (o:=.cells #[.int .i64 a1_0,.int .i64 a1_1,.int .i64 a1_2,.int .i64 a1_3] 38 (0,0)) (by (with_reducible repeat (first|refine blk_drewN ?_ _|refine blk_drew ?_|refine blk_alloc ?_ _));exact BK371.out) hb)
    have n5_:=Aside0.mk (blk_below (g:=gb384) (o:=.cells #[.slice Ao33 t381.length co33] 31 (0,0)) (by (with_reducible repeat (first|refine blk_drewN ?_ _|refine blk_drew ?_|refine blk_alloc ?_ _));exact BK384.out) hb)
    have n6_:=Aside0.mk (below_step (by repeat (first|exact HB.out|apply below_alloc|apply pw_below_drewN|apply below_drew1|refine below_set ?_ GE370.out|refine below_set ?_ GE371.out|refine below_set ?_ GE384.out)) hb)
    clear HO375
    clear HO383
    clear HO392
    clear BK370
    clear BK371
    clear BK384
    clear HB
    have HO375:=n0_
    have HO383:=n1_
    have HO392:=n2_
    have BK370:=n3_
    have BK371:=n4_
    have BK384:=n5_
    have HB:=n6_
    clear n0_ n1_ n2_ n3_ n4_ n5_ n6_
    try clear hb
    refine hK.out _ _ ⟨(blk_cell BK384.out 0).trans rfl,(blk_cell BK370.out 0).trans rfl⟩ (fun hHeld=>?_)
    clear hK K
    refine norm_ (a':=?_) ?_ ?_
    rotate_left
    ·show Act.put _ (some 31) _=_
     simp only [Act.put,List.setIfInBounds_toArray,List.set_cons_zero,List.set_cons_succ,i64_w,i32_w]
     rfl
    refine pure_ (i:=4) (N:=some 32) (v:=?_) (a':=?_) #[true,true,true,true,true] rfl rfl (by kernel_rfl) (fun _ _ _ h=>h) (Or.inl ⟨by rfl,?_⟩) ?_ ?_
    rotate_left
    ·intro w'
     go_simp
     with_reducible rfl
    rotate_left
    ·simp only [Act.put,List.setIfInBounds_toArray,List.set_cons_zero,List.set_cons_succ,i64_w,i32_w]
     rfl
    refine done_ (by kernel_rfl) ?_
    try go_wp2
    go_ret
    exact ⟨by first|rfl|(simp [errW_none,errW_some]<;>rfl)|(simp [*,errW_none,errW_some]<;>rfl),by repeat (first|exact HB.out|apply below_alloc|apply pw_below_drewN|apply below_drew1|refine below_set ?_ GE370.out|refine below_set ?_ GE371.out|refine below_set ?_ GE384.out)⟩
   ·replace c19:=Bool.eq_false_iff.mpr c19
    subst c19
    exact absurd H (by simp)
  ·rw [if_neg c16] at H
   exact absurd H (by simp)
end Go.Proofs.Ytbogfagafdokeaa.QFnExactRangeText
