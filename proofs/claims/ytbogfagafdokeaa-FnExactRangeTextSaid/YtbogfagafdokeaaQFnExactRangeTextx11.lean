import Derived.Test.YtbogfagafdokeaaMapObj
import Derived.Test.YtbogfagafdokeaaQFnExactRangeTextx0
namespace Go.Proofs.Ytbogfagafdokeaa.QFnExactRangeText
open Go.RowKit Go.Proofs.YtbogfagafdokeaaV.PrintWords Go.Proofs.YtbogfagafdokeaaV.PrintLast Go.Proofs.YtbogfagafdokeaaV.PrintMore
attribute [local go_sem] max2_int min2_int max_two min_two max_three min_three max_four min_four
open Go.Proofs.Ytbogfagafdokeaa.MapObj
set_option linter.unusedVariables false
set_option linter.unusedSimpArgs false
private theorem zero_bool {W:World}:(zeroValue 4).run Try.prog W=.ok (.bool false) W:=by kernel_rfl
/-! ### laws_toSpot: function 8 -/
def laws_toSpot.f (a0_0:Int) (a0_1:Int):Option (Int×Int):=some (a0_0,a0_1)
set_option maxHeartbeats 8000000 in
set_option maxRecDepth 100000 in
theorem laws_toSpot.calls (a0_0:Int) (a0_1:Int) (r1:Int) (r2:Int) (w:World) (h:laws_toSpot.f a0_0 a0_1=some (r1,r2)) :
  Calls Try.prog 8 #[.agg #[.int .i64 a0_0,.int .i64 a0_1]] w fun e w'=>e=.returned (.agg #[.int .i64 r1,.int .i64 r2])∧Below w.heap.size w w':=by
 have hu26:=Try.underlying26
 have hu33:=Try.underlying33
 have HB:=Aside0.mk (Below.refl w.heap.size w)
 have H:(some (a0_0,a0_1))=some (r1,r2):=h
 clear h
 simp only [Option.some.injEq,Prod.mk.injEq] at H
 obtain ⟨rfl,rfl⟩:=H
 go_enter Try.func8,Try.ntmps8
 go_wp2_with (first|((with_reducible refine gate_dst (N:=1) rfl ?_);refine box_event rfl (N:=1) rfl (cs:=#[.int .i64 a0_0,.int .i64 a0_1]) (t:=26) ?hr ?_;(case hr=>first|(go_simp;done)|(go_simp;rfl));intro gb307 hg w2 hbox hb;have n0_:=Aside0.mk (below_step (by repeat (first|(with_reducible first|exact HB.out|apply below_alloc|apply pw_below_drewN|apply below_drew1)|exact HB.out)) hb);have n1_:=Aside0.mk (hbox);have n2_:=Aside0.mk ((by rw [hg];exact (below_size (by repeat (first|(with_reducible first|exact HB.out|apply below_alloc|apply pw_below_drewN|apply below_drew1)|exact HB.out))):w.heap.size≤gb307));have n3_:=Aside0.mk ((by rw [hg];exact (below_size (by repeat (first|(with_reducible first|exact HB.out|apply below_alloc|apply pw_below_drewN|apply below_drew1)|exact HB.out))):w.heap.size≤gb307));clear HB;have HB:=n0_;have BK307:=n1_;have GW307:=n2_;have GE307:=n3_;clear n0_ n1_ n2_ n3_;clear hb hbox hg)|((with_reducible refine gate_dst (N:=2) rfl ?_);refine box_event rfl (N:=2) rfl (cs:=#[.int .i64 0,.int .i64 0]) (t:=33) ?hr ?_;(case hr=>first|(go_simp;done)|(go_simp;rfl));intro gb308 hg w3 hbox hb;have n0_:=Aside0.mk (blk_below (g:=gb307) (o:=.cells #[.int .i64 a0_0,.int .i64 a0_1] 26 (0,0)) (by (with_reducible repeat (first|refine blk_drewN ?_ _|refine blk_drew ?_|refine blk_alloc ?_ _));exact BK307.out) hb);have n1_:=Aside0.mk (below_step (by repeat (first|(with_reducible first|exact HB.out|apply below_alloc|apply pw_below_drewN|apply below_drew1|refine below_set ?_ GE307.out)|exact HB.out)) hb);have n2_:=Aside0.mk (hbox);have n3_:=Aside0.mk ((by rw [hg];exact (below_size (by repeat (first|(with_reducible first|exact HB.out|apply below_alloc|apply pw_below_drewN|apply below_drew1|refine below_set ?_ GE307.out)|exact HB.out))):w.heap.size≤gb308));have n4_:=Aside0.mk ((by rw [hg];exact (below_size (by repeat (first|(with_reducible first|exact HB.out|apply below_alloc|apply pw_below_drewN|apply below_drew1|refine below_set ?_ GE307.out)|exact HB.out))):w.heap.size≤gb308));have n5_:=Aside0.mk ((by rw [hg];exact Nat.ne_of_lt (blk_lt (g:=gb307) (o:=.cells #[.int .i64 a0_0,.int .i64 a0_1] 26 (0,0)) (by (with_reducible repeat (first|refine blk_drewN ?_ _|refine blk_drew ?_|refine blk_alloc ?_ _));exact BK307.out)):gb307≠gb308));have n6_:=Aside0.mk ((by rw [hg];exact Nat.ne_of_gt (blk_lt (g:=gb307) (o:=.cells #[.int .i64 a0_0,.int .i64 a0_1] 26 (0,0)) (by (with_reducible repeat (first|refine blk_drewN ?_ _|refine blk_drew ?_|refine blk_alloc ?_ _));exact BK307.out)):gb308≠gb307));clear BK307;clear HB;have BK307:=n0_;have HB:=n1_;have BK308:=n2_;have GW308:=n3_;have GE308:=n4_;have NB307_308:=n5_;have NB308_307:=n6_;clear n0_ n1_ n2_ n3_ n4_ n5_ n6_;clear hb hbox hg)|((with_reducible refine gate_dst (N:=3) rfl ?_);refine box_event rfl (N:=3) rfl (cs:=#[.int .i64 0,.int .i64 0]) (t:=33) ?hr ?_;(case hr=>first|(go_simp;done)|(go_simp;rfl));intro gb309 hg w4 hbox hb;have n0_:=Aside0.mk (blk_below (g:=gb307) (o:=.cells #[.int .i64 a0_0,.int .i64 a0_1] 26 (0,0)) (by (with_reducible repeat (first|refine blk_drewN ?_ _|refine blk_drew ?_|refine blk_alloc ?_ _));exact BK307.out) hb);have n1_:=Aside0.mk (blk_below (g:=gb308) (o:=.cells #[.int .i64 0,.int .i64 0] 33 (0,0)) (by (with_reducible repeat (first|refine blk_drewN ?_ _|refine blk_drew ?_|refine blk_alloc ?_ _));exact BK308.out) hb);have n2_:=Aside0.mk (below_step (by repeat (first|(with_reducible first|exact HB.out|apply below_alloc|apply pw_below_drewN|apply below_drew1|refine below_set ?_ GE307.out|refine below_set ?_ GE308.out)|exact HB.out)) hb);have n3_:=Aside0.mk (hbox);have n4_:=Aside0.mk ((by rw [hg];exact (below_size (by repeat (first|(with_reducible first|exact HB.out|apply below_alloc|apply pw_below_drewN|apply below_drew1|refine below_set ?_ GE307.out|refine below_set ?_ GE308.out)|exact HB.out))):w.heap.size≤gb309));have n5_:=Aside0.mk ((by rw [hg];exact (below_size (by repeat (first|(with_reducible first|exact HB.out|apply below_alloc|apply pw_below_drewN|apply below_drew1|refine below_set ?_ GE307.out|refine below_set ?_ GE308.out)|exact HB.out))):w.heap.size≤gb309));have n6_:=Aside0.mk ((by rw [hg];exact Nat.ne_of_lt (blk_lt (g:=gb307) (o:=.cells #[.int .i64 a0_0,.int .i64 a0_1] 26 (0,0)) (by (with_reducible repeat (first|refine blk_drewN ?_ _|refine blk_drew ?_|refine blk_alloc ?_ _));exact BK307.out)):gb307≠gb309));have n7_:=Aside0.mk ((by rw [hg];exact Nat.ne_of_gt (blk_lt (g:=gb307) (o:=.cells #[.int .i64 a0_0,.int .i64 a0_1] 26 (0,0)) (by (with_reducible repeat (first|refine blk_drewN ?_ _|refine blk_drew ?_|refine blk_alloc ?_ _));exact BK307.out)):gb309≠gb307));have n8_:=Aside0.mk ((by rw [hg];exact Nat.ne_of_lt (blk_lt (g:=gb308) (o:=.cells #[.int .i64 0,.int .i64 0] 33 (0,0)) (by (with_reducible repeat (first|refine blk_drewN ?_ _|refine blk_drew ?_|refine blk_alloc ?_ _));exact BK308.out)):gb308≠gb309));have n9_:=Aside0.mk ((by rw [hg];exact Nat.ne_of_gt (blk_lt (g:=gb308) (o:=.cells #[.int .i64 0,.int .i64 0] 33 (0,0)) (by (with_reducible repeat (first|refine blk_drewN ?_ _|refine blk_drew ?_|refine blk_alloc ?_ _));exact BK308.out)):gb309≠gb308));clear BK307;clear BK308;clear HB;have BK307:=n0_;have BK308:=n1_;have HB:=n2_;have BK309:=n3_;have GW309:=n4_;have GE309:=n5_;have NB307_309:=n6_;have NB309_307:=n7_;have NB308_309:=n8_;have NB309_308:=n9_;clear n0_ n1_ n2_ n3_ n4_ n5_ n6_ n7_ n8_ n9_;clear hb hbox hg;have hnb5:=NB307_308.out;have hnc5:=NB308_307.out;have hnb6:=NB307_309.out;have hnc6:=NB309_307.out;have hcz7_0:w4.cell? ⟨gb307,0,none⟩=some (.int .i64 a0_0):=(blk_cell BK307.out 0).trans rfl;have hcz7_1:w4.cell? ⟨gb307,1,none⟩=some (.int .i64 a0_1):=(blk_cell BK307.out 1).trans rfl;have hfz7_0:=blk_frozen BK307.out 0;have hfz7_1:=blk_frozen BK307.out 1;have hnb8:=NB309_308.out;have hnc8:=NB308_309.out;have hcz9_0:w4.cell? ⟨gb309,0,none⟩=some (.int .i64 0):=(blk_cell BK309.out 0).trans rfl;have hcz9_1:w4.cell? ⟨gb309,1,none⟩=some (.int .i64 0):=(blk_cell BK309.out 1).trans rfl;have hfz9_0:=blk_frozen BK309.out 0;have hfz9_1:=blk_frozen BK309.out 1;have hcz10_0:w4.cell? ⟨gb308,0,none⟩=some (.int .i64 0):=(blk_cell BK308.out 0).trans rfl;have hcz10_1:w4.cell? ⟨gb308,1,none⟩=some (.int .i64 0):=(blk_cell BK308.out 1).trans rfl;have hfz10_0:=blk_frozen BK308.out 0;have hfz10_1:=blk_frozen BK308.out 1))
 refine bodyPost_ret (results_cell_row rfl _ _ gb308 33 #[.int .i64 a0_0,.int .i64 a0_1] (0,0) _ rfl (by (with_reducible repeat (first|refine blk_drewN ?_ _|refine blk_drew ?_|refine blk_alloc ?_ _));refine blk_put (cs:=#[.int .i64 a0_0,.int .i64 0]) ?_ 1 _ rfl;(with_reducible repeat (first|refine blk_drewN ?_ _|refine blk_drew ?_|refine blk_alloc ?_ _));refine blk_put (cs:=#[.int .i64 0,.int .i64 0]) ?_ 0 _ rfl;(with_reducible repeat (first|refine blk_drewN ?_ _|refine blk_drew ?_|refine blk_alloc ?_ _));refine blk_far ?_ NB308_309.out _;(with_reducible repeat (first|refine blk_drewN ?_ _|refine blk_drew ?_|refine blk_alloc ?_ _));refine blk_far ?_ NB308_309.out _;(with_reducible repeat (first|refine blk_drewN ?_ _|refine blk_drew ?_|refine blk_alloc ?_ _));exact BK308.out) Try.underlying33 rfl (by kernel_rfl)) rfl ?_
 exact ⟨by first|rfl|(simp [errW_none,errW_some]<;>rfl)|(simp [*,errW_none,errW_some]<;>rfl),by repeat (first|(with_reducible first|exact HB.out|apply below_alloc|apply pw_below_drewN|apply below_drew1|refine below_set ?_ GE307.out|refine below_set ?_ GE308.out|refine below_set ?_ GE309.out)|exact HB.out)⟩
/-! ### laws_toRange: function 12 -/
def laws_toRange.f (a0_0:Int) (a0_1:Int) (a0_2:Int) (a0_3:Int):Option (Int×Int×Int×Int):=(laws_toSpot.f a0_0 a0_1).bind fun bt313=>((laws_toSpot.f a0_2 a0_3).bind fun bt315=>(some (bt313.1,bt313.2,bt315.1,bt315.2)))
set_option maxHeartbeats 8000000 in
set_option maxRecDepth 100000 in
theorem laws_toRange.calls (a0_0:Int) (a0_1:Int) (a0_2:Int) (a0_3:Int) (r1:Int) (r2:Int) (r3:Int) (r4:Int) (w:World) (h:laws_toRange.f a0_0 a0_1 a0_2 a0_3=some (r1,r2,r3,r4)) :
  Calls Try.prog 12 #[.agg #[.int .i64 a0_0,.int .i64 a0_1,.int .i64 a0_2,.int .i64 a0_3]] w fun e w'=>e=.returned (.agg #[.int .i64 r1,.int .i64 r2,.int .i64 r3,.int .i64 r4])∧Below w.heap.size w w':=by
 have hu38:=Try.underlying38
 have hu41:=Try.underlying41
 have hu26:=Try.underlying26
 have hu33:=Try.underlying33
 have HB:=Aside0.mk (Below.refl w.heap.size w)
 have H:((laws_toSpot.f a0_0 a0_1).bind fun bt313=>((laws_toSpot.f a0_2 a0_3).bind fun bt315=>(some (bt313.1,bt313.2,bt315.1,bt315.2))))=some (r1,r2,r3,r4):=h
 clear h
 replace H:=Option.bind_eq_some_iff.mp H
 obtain ⟨⟨t313,t314⟩,A20,H⟩:=H
 replace H:((laws_toSpot.f a0_2 a0_3).bind fun bt315=>(some (t313,t314,bt315.1,bt315.2)))=some (r1,r2,r3,r4):=H
 have A2:=Aside0.mk A20
 clear A20
 replace H:=Option.bind_eq_some_iff.mp H
 obtain ⟨⟨t315,t316⟩,A30,H⟩:=H
 replace H:(some (t313,t314,t315,t316))=some (r1,r2,r3,r4):=H
 have A3:=Aside0.mk A30
 clear A30
 simp only [Option.some.injEq,Prod.mk.injEq] at H
 obtain ⟨rfl,rfl,rfl,rfl⟩:=H
 go_enter Try.func12,Try.ntmps12
 go_wp2_with (first|((with_reducible refine gate_dst (N:=1) rfl ?_);refine box_event rfl (N:=1) rfl (cs:=#[.int .i64 a0_0,.int .i64 a0_1,.int .i64 a0_2,.int .i64 a0_3]) (t:=38) ?hr ?_;(case hr=>first|(go_simp;done)|(go_simp;rfl));intro gb310 hg w4 hbox hb;have n0_:=Aside0.mk (below_step (by repeat (first|(with_reducible first|exact HB.out|apply below_alloc|apply pw_below_drewN|apply below_drew1)|exact HB.out)) hb);have n1_:=Aside0.mk (hbox);have n2_:=Aside0.mk ((by rw [hg];exact (below_size (by repeat (first|(with_reducible first|exact HB.out|apply below_alloc|apply pw_below_drewN|apply below_drew1)|exact HB.out))):w.heap.size≤gb310));have n3_:=Aside0.mk ((by rw [hg];exact (below_size (by repeat (first|(with_reducible first|exact HB.out|apply below_alloc|apply pw_below_drewN|apply below_drew1)|exact HB.out))):w.heap.size≤gb310));clear HB;have HB:=n0_;have BK310:=n1_;have GW310:=n2_;have GE310:=n3_;clear n0_ n1_ n2_ n3_;clear hb hbox hg)|((with_reducible refine gate_dst (N:=2) rfl ?_);refine box_event rfl (N:=2) rfl (cs:=#[.int .i64 0,.int .i64 0,.int .i64 0,.int .i64 0]) (t:=41) ?hr ?_;(case hr=>first|(go_simp;done)|(go_simp;rfl));intro gb311 hg w5 hbox hb;have n0_:=Aside0.mk (blk_below (g:=gb310) (o:=.cells #[.int .i64 a0_0,.int .i64 a0_1,.int .i64 a0_2,.int .i64 a0_3] 38 (0,0)) (by (with_reducible repeat (first|refine blk_drewN ?_ _|refine blk_drew ?_|refine blk_alloc ?_ _));exact BK310.out) hb);have n1_:=Aside0.mk (below_step (by repeat (first|(with_reducible first|exact HB.out|apply below_alloc|apply pw_below_drewN|apply below_drew1|refine below_set ?_ GE310.out)|exact HB.out)) hb);have n2_:=Aside0.mk (hbox);have n3_:=Aside0.mk ((by rw [hg];exact (below_size (by repeat (first|(with_reducible first|exact HB.out|apply below_alloc|apply pw_below_drewN|apply below_drew1|refine below_set ?_ GE310.out)|exact HB.out))):w.heap.size≤gb311));have n4_:=Aside0.mk ((by rw [hg];exact (below_size (by repeat (first|(with_reducible first|exact HB.out|apply below_alloc|apply pw_below_drewN|apply below_drew1|refine below_set ?_ GE310.out)|exact HB.out))):w.heap.size≤gb311));have n5_:=Aside0.mk ((by rw [hg];exact Nat.ne_of_lt (blk_lt (g:=gb310) (o:=.cells #[.int .i64 a0_0,.int .i64 a0_1,.int .i64 a0_2,.int .i64 a0_3] 38 (0,0)) (by (with_reducible repeat (first|refine blk_drewN ?_ _|refine blk_drew ?_|refine blk_alloc ?_ _));exact BK310.out)):gb310≠gb311));have n6_:=Aside0.mk ((by rw [hg];exact Nat.ne_of_gt (blk_lt (g:=gb310) (o:=.cells #[.int .i64 a0_0,.int .i64 a0_1,.int .i64 a0_2,.int .i64 a0_3] 38 (0,0)) (by (with_reducible repeat (first|refine blk_drewN ?_ _|refine blk_drew ?_|refine blk_alloc ?_ _));exact BK310.out)):gb311≠gb310));clear BK310;clear HB;have BK310:=n0_;have HB:=n1_;have BK311:=n2_;have GW311:=n3_;have GE311:=n4_;have NB310_311:=n5_;have NB311_310:=n6_;clear n0_ n1_ n2_ n3_ n4_ n5_ n6_;clear hb hbox hg)|((with_reducible refine gate_dst (N:=3) rfl ?_);refine box_event rfl (N:=3) rfl (cs:=#[.int .i64 0,.int .i64 0,.int .i64 0,.int .i64 0]) (t:=41) ?hr ?_;(case hr=>first|(go_simp;done)|(go_simp;rfl));intro gb312 hg w6 hbox hb;have n0_:=Aside0.mk (blk_below (g:=gb310) (o:=.cells #[.int .i64 a0_0,.int .i64 a0_1,.int .i64 a0_2,.int .i64 a0_3] 38 (0,0)) (by (with_reducible repeat (first|refine blk_drewN ?_ _|refine blk_drew ?_|refine blk_alloc ?_ _));exact BK310.out) hb);have n1_:=Aside0.mk (blk_below (g:=gb311) (o:=.cells #[.int .i64 0,.int .i64 0,.int .i64 0,.int .i64 0] 41 (0,0)) (by (with_reducible repeat (first|refine blk_drewN ?_ _|refine blk_drew ?_|refine blk_alloc ?_ _));exact BK311.out) hb);have n2_:=Aside0.mk (below_step (by repeat (first|(with_reducible first|exact HB.out|apply below_alloc|apply pw_below_drewN|apply below_drew1|refine below_set ?_ GE310.out|refine below_set ?_ GE311.out)|exact HB.out)) hb);have n3_:=Aside0.mk (hbox);have n4_:=Aside0.mk ((by rw [hg];exact (below_size (by repeat (first|(with_reducible first|exact HB.out|apply below_alloc|apply pw_below_drewN|apply below_drew1|refine below_set ?_ GE310.out|refine below_set ?_ GE311.out)|exact HB.out))):w.heap.size≤gb312));have n5_:=Aside0.mk ((by rw [hg];exact (below_size (by repeat (first|(with_reducible first|exact HB.out|apply below_alloc|apply pw_below_drewN|apply below_drew1|refine below_set ?_ GE310.out|refine below_set ?_ GE311.out)|exact HB.out))):w.heap.size≤gb312));have n6_:=Aside0.mk ((by rw [hg];exact Nat.ne_of_lt (blk_lt (g:=gb310) (o:=.cells #[.int .i64 a0_0,.int .i64 a0_1,.int .i64 a0_2,.int .i64 a0_3] 38 (0,0)) (by (with_reducible repeat (first|refine blk_drewN ?_ _|refine blk_drew ?_|refine blk_alloc ?_ _));exact BK310.out)):gb310≠gb312));have n7_:=Aside0.mk ((by rw [hg];exact Nat.ne_of_gt (blk_lt (g:=gb310) (o:=.cells #[.int .i64 a0_0,.int .i64 a0_1,.int .i64 a0_2,.int .i64 a0_3] 38 (0,0)) (by (with_reducible repeat (first|refine blk_drewN ?_ _|refine blk_drew ?_|refine blk_alloc ?_ _));exact BK310.out)):gb312≠gb310));have n8_:=Aside0.mk ((by rw [hg];exact Nat.ne_of_lt (blk_lt (g:=gb311) (o:=.cells #[.int .i64 0,.int .i64 0,.int .i64 0,.int .i64 0] 41 (0,0)) (by (with_reducible repeat (first|refine blk_drewN ?_ _|refine blk_drew ?_|refine blk_alloc ?_ _));exact BK311.out)):gb311≠gb312));have n9_:=Aside0.mk ((by rw [hg];exact Nat.ne_of_gt (blk_lt (g:=gb311) (o:=.cells #[.int .i64 0,.int .i64 0,.int .i64 0,.int .i64 0] 41 (0,0)) (by (with_reducible repeat (first|refine blk_drewN ?_ _|refine blk_drew ?_|refine blk_alloc ?_ _));exact BK311.out)):gb312≠gb311));clear BK310;clear BK311;clear HB;have BK310:=n0_;have BK311:=n1_;have HB:=n2_;have BK312:=n3_;have GW312:=n4_;have GE312:=n5_;have NB310_312:=n6_;have NB312_310:=n7_;have NB311_312:=n8_;have NB312_311:=n9_;clear n0_ n1_ n2_ n3_ n4_ n5_ n6_ n7_ n8_ n9_;clear hb hbox hg;have hnb7:=NB310_311.out;have hnc7:=NB311_310.out;have hnb8:=NB310_312.out;have hnc8:=NB312_310.out;have hcz9_0:w6.cell? ⟨gb310,0,none⟩=some (.int .i64 a0_0):=(blk_cell BK310.out 0).trans rfl;have hcz9_1:w6.cell? ⟨gb310,1,none⟩=some (.int .i64 a0_1):=(blk_cell BK310.out 1).trans rfl;have hcz9_2:w6.cell? ⟨gb310,2,none⟩=some (.int .i64 a0_2):=(blk_cell BK310.out 2).trans rfl;have hcz9_3:w6.cell? ⟨gb310,3,none⟩=some (.int .i64 a0_3):=(blk_cell BK310.out 3).trans rfl;have hfz9_0:=blk_frozen BK310.out 0;have hfz9_1:=blk_frozen BK310.out 1;have hfz9_2:=blk_frozen BK310.out 2;have hfz9_3:=blk_frozen BK310.out 3)|((with_reducible refine gate_callee (f:=8) rfl ?_);refine goesL_ (some 6) rfl rfl Try.func8 (by kernel_rfl) rfl #[.agg #[.int .i64 a0_0,.int .i64 a0_1]] rfl (by (try simp only [List.map_toArray,List.map_cons,List.map_nil]);first|done|rfl|(simp only [List.length_drop,List.length_take];rfl)) ?_;(with_reducible refine (laws_toSpot.calls a0_0 a0_1 t313 t314 _ A2.out).mono ?_);rintro e w10 ⟨rfl,hb⟩;refine ⟨_,rfl,?_⟩;have n0_:=Aside0.mk (blk_below (g:=gb310) (o:=.cells #[.int .i64 a0_0,.int .i64 a0_1,.int .i64 a0_2,.int .i64 a0_3] 38 (0,0)) (by (with_reducible repeat (first|refine blk_drewN ?_ _|refine blk_drew ?_|refine blk_alloc ?_ _));exact BK310.out) hb);have n1_:=Aside0.mk (blk_below (g:=gb311) (o:=.cells #[.int .i64 0,.int .i64 0,.int .i64 0,.int .i64 0] 41 (0,0)) (by (with_reducible repeat (first|refine blk_drewN ?_ _|refine blk_drew ?_|refine blk_alloc ?_ _));exact BK311.out) hb);have n2_:=Aside0.mk (blk_below (g:=gb312) (o:=.cells #[.int .i64 0,.int .i64 0,.int .i64 0,.int .i64 0] 41 (0,0)) (by (with_reducible repeat (first|refine blk_drewN ?_ _|refine blk_drew ?_|refine blk_alloc ?_ _));exact BK312.out) hb);have n3_:=Aside0.mk (below_step (by repeat (first|(with_reducible first|exact HB.out|apply below_alloc|apply pw_below_drewN|apply below_drew1|refine below_set ?_ GE310.out|refine below_set ?_ GE311.out|refine below_set ?_ GE312.out)|exact HB.out)) hb);clear BK310;clear BK311;clear BK312;clear HB;have BK310:=n0_;have BK311:=n1_;have BK312:=n2_;have HB:=n3_;clear n0_ n1_ n2_ n3_;(try clear hb);(try clear hb2);(try clear hk);(try clear hi);have hnb11:=NB312_311.out;have hnc11:=NB311_312.out;have hcz12_0:w10.cell? ⟨gb312,0,none⟩=some (.int .i64 0):=(blk_cell BK312.out 0).trans rfl;have hcz12_1:w10.cell? ⟨gb312,1,none⟩=some (.int .i64 0):=(blk_cell BK312.out 1).trans rfl;have hcz12_2:w10.cell? ⟨gb312,2,none⟩=some (.int .i64 0):=(blk_cell BK312.out 2).trans rfl;have hcz12_3:w10.cell? ⟨gb312,3,none⟩=some (.int .i64 0):=(blk_cell BK312.out 3).trans rfl;have hfz12_0:=blk_frozen BK312.out 0;have hfz12_1:=blk_frozen BK312.out 1;have hfz12_2:=blk_frozen BK312.out 2;have hfz12_3:=blk_frozen BK312.out 3;have hcz13_0:w10.cell? ⟨gb310,0,none⟩=some (.int .i64 a0_0):=(blk_cell BK310.out 0).trans rfl;have hcz13_1:w10.cell? ⟨gb310,1,none⟩=some (.int .i64 a0_1):=(blk_cell BK310.out 1).trans rfl;have hcz13_2:w10.cell? ⟨gb310,2,none⟩=some (.int .i64 a0_2):=(blk_cell BK310.out 2).trans rfl;have hcz13_3:w10.cell? ⟨gb310,3,none⟩=some (.int .i64 a0_3):=(blk_cell BK310.out 3).trans rfl;have hfz13_0:=blk_frozen BK310.out 0;have hfz13_1:=blk_frozen BK310.out 1;have hfz13_2:=blk_frozen BK310.out 2;have hfz13_3:=blk_frozen BK310.out 3)|((with_reducible refine gate_callee (f:=8) rfl ?_);refine goesL_ (some 10) rfl rfl Try.func8 (by kernel_rfl) rfl #[.agg #[.int .i64 a0_2,.int .i64 a0_3]] rfl (by (try simp only [List.map_toArray,List.map_cons,List.map_nil]);first|done|rfl|(simp only [List.length_drop,List.length_take];rfl)) ?_;(with_reducible refine (laws_toSpot.calls a0_2 a0_3 t315 t316 _ A3.out).mono ?_);rintro e w14 ⟨rfl,hb⟩;refine ⟨_,rfl,?_⟩;have n0_:=Aside0.mk (blk_below (g:=gb310) (o:=.cells #[.int .i64 a0_0,.int .i64 a0_1,.int .i64 a0_2,.int .i64 a0_3] 38 (0,0)) (by (with_reducible repeat (first|refine blk_drewN ?_ _|refine blk_drew ?_|refine blk_alloc ?_ _));refine blk_far ?_ NB310_312.out _;(with_reducible repeat (first|refine blk_drewN ?_ _|refine blk_drew ?_|refine blk_alloc ?_ _));refine blk_far ?_ NB310_312.out _;(with_reducible repeat (first|refine blk_drewN ?_ _|refine blk_drew ?_|refine blk_alloc ?_ _));exact BK310.out) hb);have n1_:=Aside0.mk (blk_below (g:=gb311) (o:=.cells #[.int .i64 0,.int .i64 0,.int .i64 0,.int .i64 0] 41 (0,0)) (by (with_reducible repeat (first|refine blk_drewN ?_ _|refine blk_drew ?_|refine blk_alloc ?_ _));refine blk_far ?_ NB311_312.out _;(with_reducible repeat (first|refine blk_drewN ?_ _|refine blk_drew ?_|refine blk_alloc ?_ _));refine blk_far ?_ NB311_312.out _;(with_reducible repeat (first|refine blk_drewN ?_ _|refine blk_drew ?_|refine blk_alloc ?_ _));exact BK311.out) hb);have n2_:=Aside0.mk (blk_below (g:=gb312) (o:=.cells #[.int .i64 t313,.int .i64 t314,.int .i64 0,.int .i64 0] 41 (0,0)) (by (with_reducible repeat (first|refine blk_drewN ?_ _|refine blk_drew ?_|refine blk_alloc ?_ _));refine blk_put (cs:=#[.int .i64 t313,.int .i64 0,.int .i64 0,.int .i64 0]) ?_ 1 _ rfl;(with_reducible repeat (first|refine blk_drewN ?_ _|refine blk_drew ?_|refine blk_alloc ?_ _));refine blk_put (cs:=#[.int .i64 0,.int .i64 0,.int .i64 0,.int .i64 0]) ?_ 0 _ rfl;(with_reducible repeat (first|refine blk_drewN ?_ _|refine blk_drew ?_|refine blk_alloc ?_ _));exact BK312.out) hb);have n3_:=Aside0.mk (below_step (by repeat (first|(with_reducible first|exact HB.out|apply below_alloc|apply pw_below_drewN|apply below_drew1|refine below_set ?_ GE310.out|refine below_set ?_ GE311.out|refine below_set ?_ GE312.out)|exact HB.out)) hb);clear BK310;clear BK311;clear BK312;clear HB;have BK310:=n0_;have BK311:=n1_;have BK312:=n2_;have HB:=n3_;clear n0_ n1_ n2_ n3_;(try clear hb);(try clear hb2);(try clear hk);(try clear hi);have hcz15_0:w14.cell? ⟨gb312,0,none⟩=some (.int .i64 t313):=(blk_cell BK312.out 0).trans rfl;have hcz15_1:w14.cell? ⟨gb312,1,none⟩=some (.int .i64 t314):=(blk_cell BK312.out 1).trans rfl;have hcz15_2:w14.cell? ⟨gb312,2,none⟩=some (.int .i64 0):=(blk_cell BK312.out 2).trans rfl;have hcz15_3:w14.cell? ⟨gb312,3,none⟩=some (.int .i64 0):=(blk_cell BK312.out 3).trans rfl;have hfz15_0:=blk_frozen BK312.out 0;have hfz15_1:=blk_frozen BK312.out 1;have hfz15_2:=blk_frozen BK312.out 2;have hfz15_3:=blk_frozen BK312.out 3;have hcz16_0:w14.cell? ⟨gb311,0,none⟩=some (.int .i64 0):=(blk_cell BK311.out 0).trans rfl;have hcz16_1:w14.cell? ⟨gb311,1,none⟩=some (.int .i64 0):=(blk_cell BK311.out 1).trans rfl;have hcz16_2:w14.cell? ⟨gb311,2,none⟩=some (.int .i64 0):=(blk_cell BK311.out 2).trans rfl;have hcz16_3:w14.cell? ⟨gb311,3,none⟩=some (.int .i64 0):=(blk_cell BK311.out 3).trans rfl;have hfz16_0:=blk_frozen BK311.out 0;have hfz16_1:=blk_frozen BK311.out 1;have hfz16_2:=blk_frozen BK311.out 2;have hfz16_3:=blk_frozen BK311.out 3))
 refine bodyPost_ret (results_cell_row rfl _ _ gb311 41 #[.int .i64 t313,.int .i64 t314,.int .i64 t315,.int .i64 t316] (0,0) _ rfl (by (with_reducible repeat (first|refine blk_drewN ?_ _|refine blk_drew ?_|refine blk_alloc ?_ _));refine blk_put (cs:=#[.int .i64 t313,.int .i64 t314,.int .i64 t315,.int .i64 0]) ?_ 3 _ rfl;(with_reducible repeat (first|refine blk_drewN ?_ _|refine blk_drew ?_|refine blk_alloc ?_ _));refine blk_put (cs:=#[.int .i64 t313,.int .i64 t314,.int .i64 0,.int .i64 0]) ?_ 2 _ rfl;(with_reducible repeat (first|refine blk_drewN ?_ _|refine blk_drew ?_|refine blk_alloc ?_ _));refine blk_put (cs:=#[.int .i64 t313,.int .i64 0,.int .i64 0,.int .i64 0]) ?_ 1 _ rfl;(with_reducible repeat (first|refine blk_drewN ?_ _|refine blk_drew ?_|refine blk_alloc ?_ _));refine blk_put (cs:=#[.int .i64 0,.int .i64 0,.int .i64 0,.int .i64 0]) ?_ 0 _ rfl;(with_reducible repeat (first|refine blk_drewN ?_ _|refine blk_drew ?_|refine blk_alloc ?_ _));refine blk_far ?_ NB311_312.out _;(with_reducible repeat (first|refine blk_drewN ?_ _|refine blk_drew ?_|refine blk_alloc ?_ _));refine blk_far ?_ NB311_312.out _;(with_reducible repeat (first|refine blk_drewN ?_ _|refine blk_drew ?_|refine blk_alloc ?_ _));exact BK311.out) Try.underlying41 rfl (by kernel_rfl)) rfl ?_
 exact ⟨by first|rfl|(simp [errW_none,errW_some]<;>rfl)|(simp [*,errW_none,errW_some]<;>rfl),by repeat (first|(with_reducible first|exact HB.out|apply below_alloc|apply pw_below_drewN|apply below_drew1|refine below_set ?_ GE310.out|refine below_set ?_ GE311.out|refine below_set ?_ GE312.out)|exact HB.out)⟩
/-! ### impl_attrsRight: function 44 -/
def impl_attrsRight.l0:Nat→List ByteArray→List (S99)→Int→Int→Option (Bool)
 |0,_,_,_,_=>none
 |k+1,x3,x7,x8,x9=>if x9<x8 then (if 0≤x9 then (if x9<(x7.length:Int) then (if ((rd_T99 x7 x9).f0).toList=([]:List UInt8) then (some false) else (if smem x3 ((rd_T99 x7 x9).f0)=true then (some false) else (if (0:Nat)≤9223372036854775807 then (impl_attrsRight.l0 k (((rd_T99 x7 x9).f0)::x3) x7 x8 (wrap64 (x9+1))) else (none)))) else (none)) else (none)) else (some true)
def impl_attrsRight.f (k:Nat) (l0:List (S99)):Option (Bool):=impl_attrsRight.l0 k ([]:List ByteArray) l0 (l0.length:Int) 0
theorem impl_attrsRight.mono_l:∀ k,(∀ y0 y1 y2 y3,LeO (impl_attrsRight.l0 k y0 y1 y2 y3) (impl_attrsRight.l0 (k+1) y0 y1 y2 y3))
 |0=>fun _ _ _ _ r h=>by simp [impl_attrsRight.l0] at h
 |k+1=>by
  have ih0:=impl_attrsRight.mono_l k
  ·intro y0 y1 y2 y3
   unfold impl_attrsRight.l0
   repeat' first
   |(with_reducible exact ih0 _ _ _ _)
   |(with_reducible exact LeO.refl _)
   |(with_reducible exact LeO.none _)
   |(with_reducible refine LeO.ite ?_ ?_)
   |(with_reducible refine LeO.bind ?_ (fun _=>?_))
   |exact ih0 _ _ _ _
   |exact LeO.none _
   |refine LeO.ite ?_ ?_
   |refine LeO.bind ?_ (fun _=>?_)
theorem impl_attrsRight.mono:∀ a0 k,LeO (impl_attrsRight.f k a0) (impl_attrsRight.f (k+1) a0):=by
 intro a0 k
 have ih0:=impl_attrsRight.mono_l k
 unfold impl_attrsRight.f
 repeat' first
   |(with_reducible exact ih0 _ _ _ _)
   |(with_reducible exact LeO.refl _)
   |(with_reducible exact LeO.none _)
   |(with_reducible refine LeO.ite ?_ ?_)
   |(with_reducible refine LeO.bind ?_ (fun _=>?_))
   |exact ih0 _ _ _ _
   |exact LeO.none _
   |refine LeO.ite ?_ ?_
   |refine LeO.bind ?_ (fun _=>?_)
set_option maxHeartbeats 8000000 in
set_option maxRecDepth 100000 in
theorem impl_attrsRight.calls (k:Nat) (A0:Option Addr) (c0:Nat) (l0:List (S99)) (r:Bool) (w:World) (hr0:Kd.C k99 w A0 l0.length l0) (hc0:l0.length≤c0) (h:impl_attrsRight.f k l0=some r) :
  Calls Try.prog 44 #[.slice A0 l0.length c0] w fun e w'=>e=.returned (.bool r)∧Below w.heap.size w w':=by
 have hu99:=Try.underlying99
 have HR0:=Aside0.mk hr0
 have HC0:=Aside0.mk hc0
 clear hr0 hc0
 have HB:=Aside0.mk (Below.refl w.heap.size w)
 have H:(impl_attrsRight.l0 k ([]:List ByteArray) l0 (l0.length:Int) 0)=some r:=h
 clear h
 have H':=Aside0.mk H
 clear H
 have hmm:=@run_makeMap Try.prog
 go_enter Try.func44,Try.ntmps44
 go_wp2_with (first|((with_reducible refine gate_dst (N:=6) rfl ?_);refine make_event ?hg (N:=6) ?hd ?hr ?_;(case hd=>rfl);(case hg=>rfl);(case hr=>first|(go_simp;done)|(go_simp;rfl));intro gm hg wM hbox hb;have n0_:=Aside0.mk (below_step (by repeat (first|(with_reducible first|exact HB.out|apply below_alloc|apply pw_below_drewN|apply below_drew1)|exact HB.out)) hb);have n1_:=Aside0.mk (show wM.heap[gm]?=some (sobj Value.string []) from hbox);have n2_:=Aside0.mk ((by rw [hg];exact (below_size (by repeat (first|(with_reducible first|exact HB.out|apply below_alloc|apply pw_below_drewN|apply below_drew1)|exact HB.out)))):w.heap.size≤gm);clear HB;have HB:=n0_;have BKM:=n1_;have GEM:=n2_;clear n0_ n1_ n2_;clear hb hbox hg))
 clear hmm
 go_loopg [9] k (fun kq v9 w'=>∃ (x3_1:List ByteArray) (x9_1:Int),v9=.int .i64 x9_1∧Aside0 (impl_attrsRight.l0 kq x3_1 l0 (l0.length:Int) x9_1=some r)∧Aside0 (kq≤k)∧Aside0 (w'.heap[gm]?=some (sobj Value.string x3_1))∧Aside0 (Below w.heap.size w w'))
 case atStart=>exact ⟨(([]:List ByteArray)),(0),(by first|rfl|(simp;done)|(simp [*];done)),H',⟨Nat.le_refl _⟩,⟨by (with_reducible repeat (first|exact BKM.out|refine blk_drewN ?_ _|refine blk_drew ?_|refine blk_alloc ?_ _))⟩,⟨by repeat (first|(with_reducible first|exact HB.out|apply below_alloc|apply pw_below_drewN|apply below_drew1)|exact HB.out)⟩⟩
 case round=>
  clear H'
  obtain ⟨x3_1,x9_1,rfl,HA,HK1,BKM,HB⟩:=hrel
  cases gk with
  |zero=>exact absurd HA.out (by simp [impl_attrsRight.l0])
  |succ k1=>
   have H:=HA.out
   clear HA
   simp only [impl_attrsRight.l0] at H
   by_cases c2:x9_1<(l0.length:Int)
   ·rw [if_pos c2] at H
    have c2b0:decide (x9_1<(l0.length:Int))=true:=decide_eq_true c2
    clear c2
    by_cases c3:0≤x9_1
    ·rw [if_pos c3] at H
     have c3b0:decide (0≤x9_1)=true:=decide_eq_true c3
     clear c3
     by_cases c4:x9_1<(l0.length:Int)
     ·rw [if_pos c4] at H
      have c4b0:decide (x9_1<(l0.length:Int))=true:=decide_eq_true c4
      clear c4
      by_cases c5:((rd_T99 l0 x9_1).f0).toList=([]:List UInt8)
      ·rw [if_pos c5] at H
       have c5b0:(((rd_T99 l0 x9_1).f0).toList==([]:List UInt8))=true:=beq_iff_eq.mpr c5
       have c5b1:(((rd_T99 l0 x9_1).f0).toList != ([]:List UInt8))=false:=bne_eq_false_iff_eq.mpr c5
       clear c5
       obtain rfl:=Option.some.inj H
       have p317:0≤(x9_1:Int):=of_decide_eq_true (by first|(with_reducible assumption)|assumption)
       have q317:x9_1<(l0.length:Int):=of_decide_eq_true (by first|(with_reducible assumption)|assumption)
       obtain ⟨ad317,e317,hx317_0,hx317_1⟩:=at_T99 HR0.out x9_1 p317 q317
       cases e317
       replace hx317_0:=(HB.out.cell (World.block_lt_of_cell? w _ hx317_0)).trans hx317_0
       replace hx317_1:=(HB.out.cell (World.block_lt_of_cell? w _ hx317_1)).trans hx317_1
       replace p317:=eq_true p317
       replace q317:=eq_true q317
       go_wp2_with (first|((with_reducible refine gate_dst (N:=5) rfl ?_);refine box_event rfl (N:=5) rfl (cs:=#[.string (⟨#[]⟩:ByteArray),.string (⟨#[]⟩:ByteArray)]) (t:=99) ?hr ?_;(case hr=>first|(go_simp;done)|(go_simp;rfl));intro gb318 hg w6 hbox hb;have m0_:=Aside0.mk (blk_below (g:=gm) (o:=sobj Value.string x3_1) (by exact (by (with_reducible repeat (first|exact BKM.out|refine blk_drewN ?_ _|refine blk_drew ?_|refine blk_alloc ?_ _)))) hb);have m1_:=Aside0.mk (show gm≠gb318 from (by rw [hg];exact Nat.ne_of_lt (blk_lt (o:=sobj Value.string x3_1) (by exact (by (with_reducible repeat (first|exact BKM.out|refine blk_drewN ?_ _|refine blk_drew ?_|refine blk_alloc ?_ _)))))));clear BKM;have BKM:=m0_;have NBM_318:=m1_;clear m0_ m1_;have n0_:=Aside0.mk (below_step (by repeat (first|(with_reducible first|exact HB.out|apply below_alloc|apply pw_below_drewN|apply below_drew1)|exact HB.out)) hb);have n1_:=Aside0.mk (hbox);have n2_:=Aside0.mk ((by rw [hg];exact (below_size (by repeat (first|(with_reducible first|exact HB.out|apply below_alloc|apply pw_below_drewN|apply below_drew1)|exact HB.out))):w.heap.size≤gb318));have n3_:=Aside0.mk ((by rw [hg];exact (below_size (by repeat (first|(with_reducible first|exact HB.out|apply below_alloc|apply pw_below_drewN|apply below_drew1)|exact HB.out))):w.heap.size≤gb318));clear HB;have HB:=n0_;have BK318:=n1_;have GW318:=n2_;have GE318:=n3_;clear n0_ n1_ n2_ n3_;clear hb hbox hg;have hcz7_0:w6.cell? ⟨gb318,0,none⟩=some (.string (⟨#[]⟩:ByteArray)):=(blk_cell BK318.out 0).trans rfl;have hcz7_1:w6.cell? ⟨gb318,1,none⟩=some (.string (⟨#[]⟩:ByteArray)):=(blk_cell BK318.out 1).trans rfl;have hfz7_0:=blk_frozen BK318.out 0;have hfz7_1:=blk_frozen BK318.out 1))
       go_ret
       exact ⟨by first|rfl|(simp [errW_none,errW_some]<;>rfl)|(simp [*,errW_none,errW_some]<;>rfl),by repeat (first|(with_reducible first|exact HB.out|apply below_alloc|apply pw_below_drewN|apply below_drew1|refine below_set ?_ GE318.out)|exact HB.out)⟩
      ·rw [if_neg c5] at H
       have c5b0:(((rd_T99 l0 x9_1).f0).toList==([]:List UInt8))=false:=beq_eq_false_iff_ne.mpr c5
       have c5b1:(((rd_T99 l0 x9_1).f0).toList != ([]:List UInt8))=true:=bne_iff_ne.mpr c5
       by_cases c8:smem x3_1 ((rd_T99 l0 x9_1).f0)=true
       ·rw [if_pos c8] at H
        have CM:=Aside0.mk c8
        clear c8
        obtain rfl:=Option.some.inj H
        have p317:0≤(x9_1:Int):=of_decide_eq_true (by first|(with_reducible assumption)|assumption)
        have q317:x9_1<(l0.length:Int):=of_decide_eq_true (by first|(with_reducible assumption)|assumption)
        obtain ⟨ad317,e317,hx317_0,hx317_1⟩:=at_T99 HR0.out x9_1 p317 q317
        cases e317
        replace hx317_0:=(HB.out.cell (World.block_lt_of_cell? w _ hx317_0)).trans hx317_0
        replace hx317_1:=(HB.out.cell (World.block_lt_of_cell? w _ hx317_1)).trans hx317_1
        replace p317:=eq_true p317
        replace q317:=eq_true q317
        go_wp2_with (first|((with_reducible refine gate_dst (N:=5) rfl ?_);refine box_event rfl (N:=5) rfl (cs:=#[.string (⟨#[]⟩:ByteArray),.string (⟨#[]⟩:ByteArray)]) (t:=99) ?hr ?_;(case hr=>first|(go_simp;done)|(go_simp;rfl));intro gb318 hg w9 hbox hb;have m0_:=Aside0.mk (blk_below (g:=gm) (o:=sobj Value.string x3_1) (by exact (by (with_reducible repeat (first|exact BKM.out|refine blk_drewN ?_ _|refine blk_drew ?_|refine blk_alloc ?_ _)))) hb);have m1_:=Aside0.mk (show gm≠gb318 from (by rw [hg];exact Nat.ne_of_lt (blk_lt (o:=sobj Value.string x3_1) (by exact (by (with_reducible repeat (first|exact BKM.out|refine blk_drewN ?_ _|refine blk_drew ?_|refine blk_alloc ?_ _)))))));clear BKM;have BKM:=m0_;have NBM_318:=m1_;clear m0_ m1_;have n0_:=Aside0.mk (below_step (by repeat (first|(with_reducible first|exact HB.out|apply below_alloc|apply pw_below_drewN|apply below_drew1)|exact HB.out)) hb);have n1_:=Aside0.mk (hbox);have n2_:=Aside0.mk ((by rw [hg];exact (below_size (by repeat (first|(with_reducible first|exact HB.out|apply below_alloc|apply pw_below_drewN|apply below_drew1)|exact HB.out))):w.heap.size≤gb318));have n3_:=Aside0.mk ((by rw [hg];exact (below_size (by repeat (first|(with_reducible first|exact HB.out|apply below_alloc|apply pw_below_drewN|apply below_drew1)|exact HB.out))):w.heap.size≤gb318));clear HB;have HB:=n0_;have BK318:=n1_;have GW318:=n2_;have GE318:=n3_;clear n0_ n1_ n2_ n3_;clear hb hbox hg;have hcz10_0:w9.cell? ⟨gb318,0,none⟩=some (.string (⟨#[]⟩:ByteArray)):=(blk_cell BK318.out 0).trans rfl;have hcz10_1:w9.cell? ⟨gb318,1,none⟩=some (.string (⟨#[]⟩:ByteArray)):=(blk_cell BK318.out 1).trans rfl;have hfz10_0:=blk_frozen BK318.out 0;have hfz10_1:=blk_frozen BK318.out 1)|(at_lookup;(try (refine gate_guard (by rfl) ?_;dsimp only));refine sget_event (kt:=9) (et:=4) (d:=.string) (ek:=Value.string) (ks:=x3_1) (g:=gm) rfl _ _ rfl rfl (((rd_T99 l0 x9_1).f0)) rfl Try.underlying104 Try.underlying9 (fun _=>trivial) vstr_inj zero_bool (by (with_reducible repeat (first|exact BKM.out|refine blk_drewN ?_ _|refine blk_drew ?_|refine blk_alloc ?_ _|refine obj_far ?_ NBM_318.out _))) true CM.out ?_))
        go_ret
        exact ⟨by first|rfl|(simp [errW_none,errW_some]<;>rfl)|(simp [*,errW_none,errW_some]<;>rfl),by repeat (first|(with_reducible first|exact HB.out|apply below_alloc|apply pw_below_drewN|apply below_drew1|refine below_set ?_ GE318.out)|exact HB.out)⟩
       ·rw [if_neg c8] at H
        have CM:=Aside0.mk (Bool.eq_false_iff.mpr c8)
        clear c8
        by_cases c11:(0:Nat)≤9223372036854775807
        ·rw [if_pos c11] at H
         clear c11
         have H':=Aside0.mk H
         clear H
         have p317:0≤(x9_1:Int):=of_decide_eq_true (by first|(with_reducible assumption)|assumption)
         have q317:x9_1<(l0.length:Int):=of_decide_eq_true (by first|(with_reducible assumption)|assumption)
         obtain ⟨ad317,e317,hx317_0,hx317_1⟩:=at_T99 HR0.out x9_1 p317 q317
         cases e317
         replace hx317_0:=(HB.out.cell (World.block_lt_of_cell? w _ hx317_0)).trans hx317_0
         replace hx317_1:=(HB.out.cell (World.block_lt_of_cell? w _ hx317_1)).trans hx317_1
         replace p317:=eq_true p317
         replace q317:=eq_true q317
         go_wp2_with (first|((with_reducible refine gate_dst (N:=5) rfl ?_);refine box_event rfl (N:=5) rfl (cs:=#[.string (⟨#[]⟩:ByteArray),.string (⟨#[]⟩:ByteArray)]) (t:=99) ?hr ?_;(case hr=>first|(go_simp;done)|(go_simp;rfl));intro gb318 hg w12 hbox hb;have m0_:=Aside0.mk (blk_below (g:=gm) (o:=sobj Value.string x3_1) (by exact (by (with_reducible repeat (first|exact BKM.out|refine blk_drewN ?_ _|refine blk_drew ?_|refine blk_alloc ?_ _)))) hb);have m1_:=Aside0.mk (show gm≠gb318 from (by rw [hg];exact Nat.ne_of_lt (blk_lt (o:=sobj Value.string x3_1) (by exact (by (with_reducible repeat (first|exact BKM.out|refine blk_drewN ?_ _|refine blk_drew ?_|refine blk_alloc ?_ _)))))));clear BKM;have BKM:=m0_;have NBM_318:=m1_;clear m0_ m1_;have n0_:=Aside0.mk (below_step (by repeat (first|(with_reducible first|exact HB.out|apply below_alloc|apply pw_below_drewN|apply below_drew1)|exact HB.out)) hb);have n1_:=Aside0.mk (hbox);have n2_:=Aside0.mk ((by rw [hg];exact (below_size (by repeat (first|(with_reducible first|exact HB.out|apply below_alloc|apply pw_below_drewN|apply below_drew1)|exact HB.out))):w.heap.size≤gb318));have n3_:=Aside0.mk ((by rw [hg];exact (below_size (by repeat (first|(with_reducible first|exact HB.out|apply below_alloc|apply pw_below_drewN|apply below_drew1)|exact HB.out))):w.heap.size≤gb318));clear HB;have HB:=n0_;have BK318:=n1_;have GW318:=n2_;have GE318:=n3_;clear n0_ n1_ n2_ n3_;clear hb hbox hg;have hcz13_0:w12.cell? ⟨gb318,0,none⟩=some (.string (⟨#[]⟩:ByteArray)):=(blk_cell BK318.out 0).trans rfl;have hcz13_1:w12.cell? ⟨gb318,1,none⟩=some (.string (⟨#[]⟩:ByteArray)):=(blk_cell BK318.out 1).trans rfl;have hfz13_0:=blk_frozen BK318.out 0;have hfz13_1:=blk_frozen BK318.out 1)|(at_lookup;(try (refine gate_guard (by rfl) ?_;dsimp only));refine sget_event (kt:=9) (et:=4) (d:=.string) (ek:=Value.string) (ks:=x3_1) (g:=gm) rfl _ _ rfl rfl (((rd_T99 l0 x9_1).f0)) rfl Try.underlying104 Try.underlying9 (fun _=>trivial) vstr_inj zero_bool (by (with_reducible repeat (first|exact BKM.out|refine blk_drewN ?_ _|refine blk_drew ?_|refine blk_alloc ?_ _|refine obj_far ?_ NBM_318.out _))) false CM.out ?_)|(at_mapUpdate;refine sput_event (kt:=9) (et:=4) (d:=.string) (ek:=Value.string) (ks:=x3_1) (g:=gm) rfl _ _ _ rfl rfl rfl (((rd_T99 l0 x9_1).f0)) rfl rfl Try.underlying104 Try.underlying9 (fun _=>trivial) vstr_inj (by (with_reducible repeat (first|exact BKM.out|refine blk_drewN ?_ _|refine blk_drew ?_|refine blk_alloc ?_ _|refine obj_far ?_ NBM_318.out _))) ?_;intro wP hmap hg;have m0_:=Aside0.mk (show wP.heap[gm]?=some (sobj Value.string ((((rd_T99 l0 x9_1).f0))::x3_1)) from hmap);have m1_:=Aside0.mk (pw_below_grown (by repeat (first|(with_reducible first|exact HB.out|apply below_alloc|apply pw_below_drewN|apply below_drew1|refine below_set ?_ GE318.out)|exact HB.out)) _ (below_size (by repeat (first|(with_reducible first|exact HB.out|apply below_alloc|apply pw_below_drewN|apply below_drew1|refine below_set ?_ GE318.out)|exact HB.out))) hg (fun k hk=>by injection hk with hk;rw [← hk];exact GEM.out));clear BKM HB;have BKM:=m0_;have HB:=m1_;clear m0_ m1_ hmap hg))
         go_roundg k1
         case measure=>have:=HK1.out;omega
         case rel=>exact ⟨(((rd_T99 l0 x9_1).f0)::x3_1),(wrap64 (x9_1+1)),(by first|rfl|(simp;done)|(simp [*];done)),H',⟨by have:=HK1.out;omega⟩,⟨by (with_reducible repeat (first|exact BKM.out|refine blk_drewN ?_ _|refine blk_drew ?_|refine blk_alloc ?_ _))⟩,⟨by repeat (first|(with_reducible first|exact HB.out|apply below_alloc|apply pw_below_drewN|apply below_drew1|refine below_set ?_ GE318.out)|exact HB.out)⟩⟩
        ·rw [if_neg c11] at H
         exact absurd H (by simp)
     ·rw [if_neg c4] at H
      exact absurd H (by simp)
    ·rw [if_neg c3] at H
     exact absurd H (by simp)
   ·rw [if_neg c2] at H
    have c2b0:decide (x9_1<(l0.length:Int))=false:=decide_eq_false c2
    clear c2
    obtain rfl:=Option.some.inj H
    go_wp2
    go_ret
    exact ⟨by first|rfl|(simp [errW_none,errW_some]<;>rfl)|(simp [*,errW_none,errW_some]<;>rfl),by repeat (first|(with_reducible first|exact HB.out|apply below_alloc|apply pw_below_drewN|apply below_drew1)|exact HB.out)⟩
/-! ### impl_nodeRight: function 32 -/
def impl_nodeRight.j0:Nat→Bool→Int→Int→ByteArray→List (S99)→ByteArray→Int→Option (Bool)
 |0,_,_,_,_,_,_,_=>none
 |k+1,x24,x320000,x320001,x320002,x320003,x320004,x320005=>if x24=true then (some false) else (if x320001=1 then (if x320002.toList=([]:List UInt8) then (if (x320003.length:Int)=0 then (some (x320004.toList==([]:List UInt8))) else (some false)) else (some false)) else (if x320001=2 then (if x320002.toList=([]:List UInt8) then (some false) else (if x320004.toList=([]:List UInt8) then ((impl_attrsRight.f k x320003).bind fun t320=>(some t320)) else (some false))) else (if x320001=3 then (if x320004.toList=([]:List UInt8) then (some false) else (if x320002.toList=([]:List UInt8) then (if (x320003.length:Int)=0 then (some (x320005==0)) else (some false)) else (some false))) else (if x320001=4 then (if x320002.toList=([]:List UInt8) then (if (x320003.length:Int)=0 then (some (x320005==0)) else (some false)) else (some false)) else (if x320001=5 then (if x320004.toList=([]:List UInt8) then (if (x320003.length:Int)=0 then (some (x320005==0)) else (some false)) else (some false)) else (some false))))))
def impl_nodeRight.f (k:Nat) (a0_0:Int) (a0_1:Int) (a0_2:ByteArray) (l0_3:List (S99)) (a0_4:ByteArray) (a0_5:Int) (a1:Bool):Option (Bool):=if a0_0<0 then (impl_nodeRight.j0 k true a0_0 a0_1 a0_2 l0_3 a0_4 a0_5) else (if a0_0 > 1000000 then (impl_nodeRight.j0 k true a0_0 a0_1 a0_2 l0_3 a0_4 a0_5) else (if a0_5<0 then (impl_nodeRight.j0 k true a0_0 a0_1 a0_2 l0_3 a0_4 a0_5) else (impl_nodeRight.j0 k (a1 != (a0_1==1)) a0_0 a0_1 a0_2 l0_3 a0_4 a0_5)))
theorem impl_nodeRight.mono_l:∀ k,(∀ y0 y1 y2 y3 y4 y5 y6,LeO (impl_nodeRight.j0 k y0 y1 y2 y3 y4 y5 y6) (impl_nodeRight.j0 (k+1) y0 y1 y2 y3 y4 y5 y6))
 |0=>fun _ _ _ _ _ _ _ r h=>by simp [impl_nodeRight.j0] at h
 |k+1=>by
  have ih0:=impl_nodeRight.mono_l k
  ·intro y0 y1 y2 y3 y4 y5 y6
   unfold impl_nodeRight.j0
   repeat' first
   |(with_reducible exact ih0 _ _ _ _ _ _ _)
   |(with_reducible exact impl_attrsRight.mono _ _)
   |(with_reducible exact LeO.refl _)
   |(with_reducible exact LeO.none _)
   |(with_reducible refine LeO.ite ?_ ?_)
   |(with_reducible refine LeO.bind ?_ (fun _=>?_))
   |exact ih0 _ _ _ _ _ _ _
   |exact impl_attrsRight.mono _ _
   |exact LeO.none _
   |refine LeO.ite ?_ ?_
   |refine LeO.bind ?_ (fun _=>?_)
theorem impl_nodeRight.mono:∀ a0 a1 a2 a3 a4 a5 a6 k,LeO (impl_nodeRight.f k a0 a1 a2 a3 a4 a5 a6) (impl_nodeRight.f (k+1) a0 a1 a2 a3 a4 a5 a6):=by
 intro a0 a1 a2 a3 a4 a5 a6 k
 have ih0:=impl_nodeRight.mono_l k
 unfold impl_nodeRight.f
 repeat' first
   |(with_reducible exact ih0 _ _ _ _ _ _ _)
   |(with_reducible exact impl_attrsRight.mono _ _)
   |(with_reducible exact LeO.refl _)
   |(with_reducible exact LeO.none _)
   |(with_reducible refine LeO.ite ?_ ?_)
   |(with_reducible refine LeO.bind ?_ (fun _=>?_))
   |exact ih0 _ _ _ _ _ _ _
   |exact impl_attrsRight.mono _ _
   |exact LeO.none _
   |refine LeO.ite ?_ ?_
   |refine LeO.bind ?_ (fun _=>?_)
set_option maxHeartbeats 8000000 in
set_option maxRecDepth 100000 in
theorem impl_nodeRight.calls (k:Nat) (a0_0:Int) (a0_1:Int) (a0_2:ByteArray) (A0_3:Option Addr) (c0_3:Nat) (l0_3:List (S99)) (a0_4:ByteArray) (a0_5:Int) (a1:Bool) (r:Bool) (w:World) (hr0_3:Kd.C k99 w A0_3 l0_3.length l0_3) (hc0_3:l0_3.length≤c0_3) (h:impl_nodeRight.f k a0_0 a0_1 a0_2 l0_3 a0_4 a0_5 a1=some r) :
  Calls Try.prog 32 #[.agg #[.int .i64 a0_0,.int .i64 a0_1,.string a0_2,.slice A0_3 l0_3.length c0_3,.string a0_4,.int .i64 a0_5],.bool a1] w fun e w'=>e=.returned (.bool r)∧Below w.heap.size w w':=by
 have hu59:=Try.underlying59
 have HR0_3:=Aside0.mk hr0_3
 have HC0_3:=Aside0.mk hc0_3
 clear hr0_3 hc0_3
 have HB:=Aside0.mk (Below.refl w.heap.size w)
 have H:(if a0_0<0 then (impl_nodeRight.j0 k true a0_0 a0_1 a0_2 l0_3 a0_4 a0_5) else (if a0_0 > 1000000 then (impl_nodeRight.j0 k true a0_0 a0_1 a0_2 l0_3 a0_4 a0_5) else (if a0_5<0 then (impl_nodeRight.j0 k true a0_0 a0_1 a0_2 l0_3 a0_4 a0_5) else (impl_nodeRight.j0 k (a1 != (a0_1==1)) a0_0 a0_1 a0_2 l0_3 a0_4 a0_5))))=some r:=h
 clear h
 have HC3:=Aside0.mk H
 clear H
 go_enter Try.func32,Try.ntmps32
 go_upto_region 1 with (first|((with_reducible refine gate_dst (N:=2) rfl ?_);(try (refine gate_guard (by rfl) ?_;dsimp only));refine box_event rfl (N:=2) rfl (cs:=#[.int .i64 a0_0,.int .i64 a0_1,.string a0_2,.slice A0_3 l0_3.length c0_3,.string a0_4,.int .i64 a0_5]) (t:=59) ?hr ?_;(case hr=>first|(go_simp;done)|(go_simp;rfl));intro gb319 hg w4 hbox hb;have n0_:=Aside0.mk (below_step (by repeat (first|(with_reducible first|exact HB.out|apply below_alloc|apply pw_below_drewN|apply below_drew1)|exact HB.out)) hb);have n1_:=Aside0.mk (hbox);have n2_:=Aside0.mk ((by rw [hg];exact (below_size (by repeat (first|(with_reducible first|exact HB.out|apply below_alloc|apply pw_below_drewN|apply below_drew1)|exact HB.out))):w.heap.size≤gb319));have n3_:=Aside0.mk ((by rw [hg];exact (below_size (by repeat (first|(with_reducible first|exact HB.out|apply below_alloc|apply pw_below_drewN|apply below_drew1)|exact HB.out))):w.heap.size≤gb319));clear HB;have HB:=n0_;have BK319:=n1_;have GW319:=n2_;have GE319:=n3_;clear n0_ n1_ n2_ n3_;clear hb hbox hg))
 (try simp only [Act.put,List.setIfInBounds_toArray,List.set_cons_zero,List.set_cons_succ])
 go_cut [24] (fun v24 wc=>∃ (kq:Nat) (x24_2:Bool),v24=.bool x24_2∧Aside0 (impl_nodeRight.j0 kq x24_2 a0_0 a0_1 a0_2 l0_3 a0_4 a0_5=some r)∧Aside0 (kq≤k)∧Aside0 (wc.heap[gb319]?=some (.cells #[.int .i64 a0_0,.int .i64 a0_1,.string a0_2,(.slice A0_3 l0_3.length c0_3),.string a0_4,.int .i64 a0_5] 59 (0,0)))∧Aside0 (Below w.heap.size w wc))
 case first=>
  have H:=HC3.out
  clear HC3
  by_cases c5:a0_0<0
  ·rw [if_pos c5] at H
   have c5b0:decide (a0_0<0)=true:=decide_eq_true c5
   clear c5
   (first|rw [c5b0]|(simp only [i64_w,i32_w];rw [c5b0])|rw [c5b1]|skip)
   have H':=Aside0.mk H
   clear H
   have hcz6_0:w4.cell? ⟨gb319,0,none⟩=some (.int .i64 a0_0):=(blk_cell BK319.out 0).trans rfl
   have hcz6_1:w4.cell? ⟨gb319,1,none⟩=some (.int .i64 a0_1):=(blk_cell BK319.out 1).trans rfl
   have hcz6_2:w4.cell? ⟨gb319,2,none⟩=some (.string a0_2):=(blk_cell BK319.out 2).trans rfl
   have hcz6_3:w4.cell? ⟨gb319,3,none⟩=some (.slice A0_3 l0_3.length c0_3):=(blk_cell BK319.out 3).trans rfl
   have hcz6_4:w4.cell? ⟨gb319,4,none⟩=some (.string a0_4):=(blk_cell BK319.out 4).trans rfl
   have hcz6_5:w4.cell? ⟨gb319,5,none⟩=some (.int .i64 a0_5):=(blk_cell BK319.out 5).trans rfl
   have hfz6_0:=blk_frozen BK319.out 0
   have hfz6_1:=blk_frozen BK319.out 1
   have hfz6_2:=blk_frozen BK319.out 2
   have hfz6_3:=blk_frozen BK319.out 3
   have hfz6_4:=blk_frozen BK319.out 4
   have hfz6_5:=blk_frozen BK319.out 5
   go_wp2
   go_meet
   case rel=>exact ⟨_,(true),(by first|rfl|(simp;done)|(simp [*];done)),H',⟨by first|omega|exact Nat.le_refl _⟩,⟨by (with_reducible repeat (first|refine blk_drewN ?_ _|refine blk_drew ?_|refine blk_alloc ?_ _));exact BK319.out⟩,⟨by repeat (first|(with_reducible first|exact HB.out|apply below_alloc|apply pw_below_drewN|apply below_drew1|refine below_set ?_ GE319.out)|exact HB.out)⟩⟩
  ·rw [if_neg c5] at H
   have c5b0:decide (a0_0<0)=false:=decide_eq_false c5
   clear c5
   (first|rw [c5b0]|(simp only [i64_w,i32_w];rw [c5b0])|rw [c5b1]|skip)
   by_cases c7:a0_0 > 1000000
   ·rw [if_pos c7] at H
    have c7b0:decide (1000000<a0_0)=true:=decide_eq_true c7
    clear c7
    have H':=Aside0.mk H
    clear H
    have hcz8_0:w4.cell? ⟨gb319,0,none⟩=some (.int .i64 a0_0):=(blk_cell BK319.out 0).trans rfl
    have hcz8_1:w4.cell? ⟨gb319,1,none⟩=some (.int .i64 a0_1):=(blk_cell BK319.out 1).trans rfl
    have hcz8_2:w4.cell? ⟨gb319,2,none⟩=some (.string a0_2):=(blk_cell BK319.out 2).trans rfl
    have hcz8_3:w4.cell? ⟨gb319,3,none⟩=some (.slice A0_3 l0_3.length c0_3):=(blk_cell BK319.out 3).trans rfl
    have hcz8_4:w4.cell? ⟨gb319,4,none⟩=some (.string a0_4):=(blk_cell BK319.out 4).trans rfl
    have hcz8_5:w4.cell? ⟨gb319,5,none⟩=some (.int .i64 a0_5):=(blk_cell BK319.out 5).trans rfl
    have hfz8_0:=blk_frozen BK319.out 0
    have hfz8_1:=blk_frozen BK319.out 1
    have hfz8_2:=blk_frozen BK319.out 2
    have hfz8_3:=blk_frozen BK319.out 3
    have hfz8_4:=blk_frozen BK319.out 4
    have hfz8_5:=blk_frozen BK319.out 5
    go_wp2
    go_meet
    case rel=>exact ⟨_,(true),(by first|rfl|(simp;done)|(simp [*];done)),H',⟨by first|omega|exact Nat.le_refl _⟩,⟨by (with_reducible repeat (first|refine blk_drewN ?_ _|refine blk_drew ?_|refine blk_alloc ?_ _));exact BK319.out⟩,⟨by repeat (first|(with_reducible first|exact HB.out|apply below_alloc|apply pw_below_drewN|apply below_drew1|refine below_set ?_ GE319.out)|exact HB.out)⟩⟩
   ·rw [if_neg c7] at H
    have c7b0:decide (1000000<a0_0)=false:=decide_eq_false c7
    clear c7
    by_cases c9:a0_5<0
    ·rw [if_pos c9] at H
     have c9b0:decide (a0_5<0)=true:=decide_eq_true c9
     clear c9
     have H':=Aside0.mk H
     clear H
     have hcz10_0:w4.cell? ⟨gb319,0,none⟩=some (.int .i64 a0_0):=(blk_cell BK319.out 0).trans rfl
     have hcz10_1:w4.cell? ⟨gb319,1,none⟩=some (.int .i64 a0_1):=(blk_cell BK319.out 1).trans rfl
     have hcz10_2:w4.cell? ⟨gb319,2,none⟩=some (.string a0_2):=(blk_cell BK319.out 2).trans rfl
     have hcz10_3:w4.cell? ⟨gb319,3,none⟩=some (.slice A0_3 l0_3.length c0_3):=(blk_cell BK319.out 3).trans rfl
     have hcz10_4:w4.cell? ⟨gb319,4,none⟩=some (.string a0_4):=(blk_cell BK319.out 4).trans rfl
     have hcz10_5:w4.cell? ⟨gb319,5,none⟩=some (.int .i64 a0_5):=(blk_cell BK319.out 5).trans rfl
     have hfz10_0:=blk_frozen BK319.out 0
     have hfz10_1:=blk_frozen BK319.out 1
     have hfz10_2:=blk_frozen BK319.out 2
     have hfz10_3:=blk_frozen BK319.out 3
     have hfz10_4:=blk_frozen BK319.out 4
     have hfz10_5:=blk_frozen BK319.out 5
     go_wp2
     go_meet
     case rel=>exact ⟨_,(true),(by first|rfl|(simp;done)|(simp [*];done)),H',⟨by first|omega|exact Nat.le_refl _⟩,⟨by (with_reducible repeat (first|refine blk_drewN ?_ _|refine blk_drew ?_|refine blk_alloc ?_ _));exact BK319.out⟩,⟨by repeat (first|(with_reducible first|exact HB.out|apply below_alloc|apply pw_below_drewN|apply below_drew1|refine below_set ?_ GE319.out)|exact HB.out)⟩⟩
    ·rw [if_neg c9] at H
     have c9b0:decide (a0_5<0)=false:=decide_eq_false c9
     clear c9
     have H':=Aside0.mk H
     clear H
     have hcz11_0:w4.cell? ⟨gb319,0,none⟩=some (.int .i64 a0_0):=(blk_cell BK319.out 0).trans rfl
     have hcz11_1:w4.cell? ⟨gb319,1,none⟩=some (.int .i64 a0_1):=(blk_cell BK319.out 1).trans rfl
     have hcz11_2:w4.cell? ⟨gb319,2,none⟩=some (.string a0_2):=(blk_cell BK319.out 2).trans rfl
     have hcz11_3:w4.cell? ⟨gb319,3,none⟩=some (.slice A0_3 l0_3.length c0_3):=(blk_cell BK319.out 3).trans rfl
     have hcz11_4:w4.cell? ⟨gb319,4,none⟩=some (.string a0_4):=(blk_cell BK319.out 4).trans rfl
     have hcz11_5:w4.cell? ⟨gb319,5,none⟩=some (.int .i64 a0_5):=(blk_cell BK319.out 5).trans rfl
     have hfz11_0:=blk_frozen BK319.out 0
     have hfz11_1:=blk_frozen BK319.out 1
     have hfz11_2:=blk_frozen BK319.out 2
     have hfz11_3:=blk_frozen BK319.out 3
     have hfz11_4:=blk_frozen BK319.out 4
     have hfz11_5:=blk_frozen BK319.out 5
     go_wp2
     go_meet
     case rel=>exact ⟨_,((a1 != (a0_1==1))),(by first|rfl|(simp;done)|(simp [*];done)),H',⟨by first|omega|exact Nat.le_refl _⟩,⟨by (with_reducible repeat (first|refine blk_drewN ?_ _|refine blk_drew ?_|refine blk_alloc ?_ _));exact BK319.out⟩,⟨by repeat (first|(with_reducible first|exact HB.out|apply below_alloc|apply pw_below_drewN|apply below_drew1|refine below_set ?_ GE319.out)|exact HB.out)⟩⟩
 case rest=>
  clear HC3
  try clear c5
  try clear c5b0
  try clear c7
  try clear c7b0
  try clear c9
  try clear c9b0
  try clear hcz10_0
  try clear hcz10_1
  try clear hcz10_2
  try clear hcz10_3
  try clear hcz10_4
  try clear hcz10_5
  try clear hcz11_0
  try clear hcz11_1
  try clear hcz11_2
  try clear hcz11_3
  try clear hcz11_4
  try clear hcz11_5
  try clear hcz6_0
  try clear hcz6_1
  try clear hcz6_2
  try clear hcz6_3
  try clear hcz6_4
  try clear hcz6_5
  try clear hcz8_0
  try clear hcz8_1
  try clear hcz8_2
  try clear hcz8_3
  try clear hcz8_4
  try clear hcz8_5
  try clear hfz10_0
  try clear hfz10_1
  try clear hfz10_2
  try clear hfz10_3
  try clear hfz10_4
  try clear hfz10_5
  try clear hfz11_0
  try clear hfz11_1
  try clear hfz11_2
  try clear hfz11_3
  try clear hfz11_4
  try clear hfz11_5
  try clear hfz6_0
  try clear hfz6_1
  try clear hfz6_2
  try clear hfz6_3
  try clear hfz6_4
  try clear hfz6_5
  try clear hfz8_0
  try clear hfz8_1
  try clear hfz8_2
  try clear hfz8_3
  try clear hfz8_4
  try clear hfz8_5
  obtain ⟨kq,x24_2,rfl,HA,HJ2,BK319,HB⟩:=hcut
  cases kq with
  |zero=>exact absurd HA.out (by simp [impl_nodeRight.j0])
  |succ kj2=>
   have H:=HA.out
   clear HA
   simp only [impl_nodeRight.j0] at H
   by_cases c12:x24_2=true
   ·subst c12
    have H1:=H
    rw [if_pos rfl] at H1
    clear H
    have H:=H1
    clear H1
    obtain rfl:=Option.some.inj H
    go_wp2
    go_ret
    exact ⟨by first|rfl|(simp [errW_none,errW_some]<;>rfl)|(simp [*,errW_none,errW_some]<;>rfl),by repeat (first|(with_reducible first|exact HB.out|apply below_alloc|apply pw_below_drewN|apply below_drew1|refine below_set ?_ GE319.out)|exact HB.out)⟩
   ·replace c12:=Bool.eq_false_iff.mpr c12
    subst c12
    have H1:=H
    rw [if_neg (show ¬ (false=true) by decide)] at H1
    clear H
    have H:=H1
    clear H1
    by_cases c13:a0_1=1
    ·rw [if_pos c13] at H
     have c13b0:(a0_1==1)=true:=beq_iff_eq.mpr c13
     have c13b1:(a0_1 != 1)=false:=bne_eq_false_iff_eq.mpr c13
     clear c13
     by_cases c14:a0_2.toList=([]:List UInt8)
     ·rw [if_pos c14] at H
      have c14b0:(a0_2.toList==([]:List UInt8))=true:=beq_iff_eq.mpr c14
      have c14b1:(a0_2.toList != ([]:List UInt8))=false:=bne_eq_false_iff_eq.mpr c14
      clear c14
      by_cases c15:(l0_3.length:Int)=0
      ·rw [if_pos c15] at H
       have c15b0:((l0_3.length:Int)==0)=true:=beq_iff_eq.mpr c15
       have c15b1:((l0_3.length:Int) != 0)=false:=bne_eq_false_iff_eq.mpr c15
       clear c15
       obtain rfl:=Option.some.inj H
       have hcz16_0:wc.cell? ⟨gb319,0,none⟩=some (.int .i64 a0_0):=(blk_cell BK319.out 0).trans rfl
       have hcz16_1:wc.cell? ⟨gb319,1,none⟩=some (.int .i64 a0_1):=(blk_cell BK319.out 1).trans rfl
       have hcz16_2:wc.cell? ⟨gb319,2,none⟩=some (.string a0_2):=(blk_cell BK319.out 2).trans rfl
       have hcz16_3:wc.cell? ⟨gb319,3,none⟩=some (.slice A0_3 l0_3.length c0_3):=(blk_cell BK319.out 3).trans rfl
       have hcz16_4:wc.cell? ⟨gb319,4,none⟩=some (.string a0_4):=(blk_cell BK319.out 4).trans rfl
       have hcz16_5:wc.cell? ⟨gb319,5,none⟩=some (.int .i64 a0_5):=(blk_cell BK319.out 5).trans rfl
       have hfz16_0:=blk_frozen BK319.out 0
       have hfz16_1:=blk_frozen BK319.out 1
       have hfz16_2:=blk_frozen BK319.out 2
       have hfz16_3:=blk_frozen BK319.out 3
       have hfz16_4:=blk_frozen BK319.out 4
       have hfz16_5:=blk_frozen BK319.out 5
       go_wp2
       go_ret
       exact ⟨by first|rfl|(simp [errW_none,errW_some]<;>rfl)|(simp [*,errW_none,errW_some]<;>rfl),by repeat (first|(with_reducible first|exact HB.out|apply below_alloc|apply pw_below_drewN|apply below_drew1|refine below_set ?_ GE319.out)|exact HB.out)⟩
      ·rw [if_neg c15] at H
       have c15b0:((l0_3.length:Int)==0)=false:=beq_eq_false_iff_ne.mpr c15
       have c15b1:((l0_3.length:Int) != 0)=true:=bne_iff_ne.mpr c15
       have c15b2:¬ (l0_3=[]):=fun h_=>c15 (by rw [h_];rfl)
       obtain rfl:=Option.some.inj H
       have hcz17_0:wc.cell? ⟨gb319,0,none⟩=some (.int .i64 a0_0):=(blk_cell BK319.out 0).trans rfl
       have hcz17_1:wc.cell? ⟨gb319,1,none⟩=some (.int .i64 a0_1):=(blk_cell BK319.out 1).trans rfl
       have hcz17_2:wc.cell? ⟨gb319,2,none⟩=some (.string a0_2):=(blk_cell BK319.out 2).trans rfl
       have hcz17_3:wc.cell? ⟨gb319,3,none⟩=some (.slice A0_3 l0_3.length c0_3):=(blk_cell BK319.out 3).trans rfl
       have hcz17_4:wc.cell? ⟨gb319,4,none⟩=some (.string a0_4):=(blk_cell BK319.out 4).trans rfl
       have hcz17_5:wc.cell? ⟨gb319,5,none⟩=some (.int .i64 a0_5):=(blk_cell BK319.out 5).trans rfl
       have hfz17_0:=blk_frozen BK319.out 0
       have hfz17_1:=blk_frozen BK319.out 1
       have hfz17_2:=blk_frozen BK319.out 2
       have hfz17_3:=blk_frozen BK319.out 3
       have hfz17_4:=blk_frozen BK319.out 4
       have hfz17_5:=blk_frozen BK319.out 5
       go_wp2
       go_ret
       exact ⟨by first|rfl|(simp [errW_none,errW_some]<;>rfl)|(simp [*,errW_none,errW_some]<;>rfl),by repeat (first|(with_reducible first|exact HB.out|apply below_alloc|apply pw_below_drewN|apply below_drew1|refine below_set ?_ GE319.out)|exact HB.out)⟩
     ·rw [if_neg c14] at H
      have c14b0:(a0_2.toList==([]:List UInt8))=false:=beq_eq_false_iff_ne.mpr c14
      have c14b1:(a0_2.toList != ([]:List UInt8))=true:=bne_iff_ne.mpr c14
      obtain rfl:=Option.some.inj H
      have hcz18_0:wc.cell? ⟨gb319,0,none⟩=some (.int .i64 a0_0):=(blk_cell BK319.out 0).trans rfl
      have hcz18_1:wc.cell? ⟨gb319,1,none⟩=some (.int .i64 a0_1):=(blk_cell BK319.out 1).trans rfl
      have hcz18_2:wc.cell? ⟨gb319,2,none⟩=some (.string a0_2):=(blk_cell BK319.out 2).trans rfl
      have hcz18_3:wc.cell? ⟨gb319,3,none⟩=some (.slice A0_3 l0_3.length c0_3):=(blk_cell BK319.out 3).trans rfl
      have hcz18_4:wc.cell? ⟨gb319,4,none⟩=some (.string a0_4):=(blk_cell BK319.out 4).trans rfl
      have hcz18_5:wc.cell? ⟨gb319,5,none⟩=some (.int .i64 a0_5):=(blk_cell BK319.out 5).trans rfl
      have hfz18_0:=blk_frozen BK319.out 0
      have hfz18_1:=blk_frozen BK319.out 1
      have hfz18_2:=blk_frozen BK319.out 2
      have hfz18_3:=blk_frozen BK319.out 3
      have hfz18_4:=blk_frozen BK319.out 4
      have hfz18_5:=blk_frozen BK319.out 5
      go_wp2
      go_ret
      exact ⟨by first|rfl|(simp [errW_none,errW_some]<;>rfl)|(simp [*,errW_none,errW_some]<;>rfl),by repeat (first|(with_reducible first|exact HB.out|apply below_alloc|apply pw_below_drewN|apply below_drew1|refine below_set ?_ GE319.out)|exact HB.out)⟩
    ·rw [if_neg c13] at H
     have c13b0:(a0_1==1)=false:=beq_eq_false_iff_ne.mpr c13
     have c13b1:(a0_1 != 1)=true:=bne_iff_ne.mpr c13
     by_cases c19:a0_1=2
     ·rw [if_pos c19] at H
      have c19b0:(a0_1==2)=true:=beq_iff_eq.mpr c19
      have c19b1:(a0_1 != 2)=false:=bne_eq_false_iff_eq.mpr c19
      clear c19
      by_cases c20:a0_2.toList=([]:List UInt8)
      ·rw [if_pos c20] at H
       have c20b0:(a0_2.toList==([]:List UInt8))=true:=beq_iff_eq.mpr c20
       have c20b1:(a0_2.toList != ([]:List UInt8))=false:=bne_eq_false_iff_eq.mpr c20
       clear c20
       obtain rfl:=Option.some.inj H
       have hcz21_0:wc.cell? ⟨gb319,0,none⟩=some (.int .i64 a0_0):=(blk_cell BK319.out 0).trans rfl
       have hcz21_1:wc.cell? ⟨gb319,1,none⟩=some (.int .i64 a0_1):=(blk_cell BK319.out 1).trans rfl
       have hcz21_2:wc.cell? ⟨gb319,2,none⟩=some (.string a0_2):=(blk_cell BK319.out 2).trans rfl
       have hcz21_3:wc.cell? ⟨gb319,3,none⟩=some (.slice A0_3 l0_3.length c0_3):=(blk_cell BK319.out 3).trans rfl
       have hcz21_4:wc.cell? ⟨gb319,4,none⟩=some (.string a0_4):=(blk_cell BK319.out 4).trans rfl
       have hcz21_5:wc.cell? ⟨gb319,5,none⟩=some (.int .i64 a0_5):=(blk_cell BK319.out 5).trans rfl
       have hfz21_0:=blk_frozen BK319.out 0
       have hfz21_1:=blk_frozen BK319.out 1
       have hfz21_2:=blk_frozen BK319.out 2
       have hfz21_3:=blk_frozen BK319.out 3
       have hfz21_4:=blk_frozen BK319.out 4
       have hfz21_5:=blk_frozen BK319.out 5
       go_wp2
       go_ret
       exact ⟨by first|rfl|(simp [errW_none,errW_some]<;>rfl)|(simp [*,errW_none,errW_some]<;>rfl),by repeat (first|(with_reducible first|exact HB.out|apply below_alloc|apply pw_below_drewN|apply below_drew1|refine below_set ?_ GE319.out)|exact HB.out)⟩
      ·rw [if_neg c20] at H
       have c20b0:(a0_2.toList==([]:List UInt8))=false:=beq_eq_false_iff_ne.mpr c20
       have c20b1:(a0_2.toList != ([]:List UInt8))=true:=bne_iff_ne.mpr c20
       by_cases c22:a0_4.toList=([]:List UInt8)
       ·rw [if_pos c22] at H
        have c22b0:(a0_4.toList==([]:List UInt8))=true:=beq_iff_eq.mpr c22
        have c22b1:(a0_4.toList != ([]:List UInt8))=false:=bne_eq_false_iff_eq.mpr c22
        clear c22
        replace H:=Option.bind_eq_some_iff.mp H
        obtain ⟨t320,A230,H⟩:=H
        try dsimp only at H
        have A23:=Aside0.mk A230
        clear A230
        obtain rfl:=Option.some.inj H
        have hcz24_0:wc.cell? ⟨gb319,0,none⟩=some (.int .i64 a0_0):=(blk_cell BK319.out 0).trans rfl
        have hcz24_1:wc.cell? ⟨gb319,1,none⟩=some (.int .i64 a0_1):=(blk_cell BK319.out 1).trans rfl
        have hcz24_2:wc.cell? ⟨gb319,2,none⟩=some (.string a0_2):=(blk_cell BK319.out 2).trans rfl
        have hcz24_3:wc.cell? ⟨gb319,3,none⟩=some (.slice A0_3 l0_3.length c0_3):=(blk_cell BK319.out 3).trans rfl
        have hcz24_4:wc.cell? ⟨gb319,4,none⟩=some (.string a0_4):=(blk_cell BK319.out 4).trans rfl
        have hcz24_5:wc.cell? ⟨gb319,5,none⟩=some (.int .i64 a0_5):=(blk_cell BK319.out 5).trans rfl
        have hfz24_0:=blk_frozen BK319.out 0
        have hfz24_1:=blk_frozen BK319.out 1
        have hfz24_2:=blk_frozen BK319.out 2
        have hfz24_3:=blk_frozen BK319.out 3
        have hfz24_4:=blk_frozen BK319.out 4
        have hfz24_5:=blk_frozen BK319.out 5
        go_wp2_with (first|(go_at_call 44;(with_reducible refine (impl_attrsRight.calls kj2 _ _ l0_3 t320 _ ?side1 ?side2 A23.out).mono ?_);(case side1=>repeat (first|exact (Kd.C_below HR0_3.out HB.out)|(with_reducible refine Kd.C_alloc ?_ _)|(with_reducible refine Kd.C_drewN ?_ _)|(with_reducible refine Kd.C_drew ?_)));(case side2=>exact HC0_3.out);rintro e w25 ⟨rfl,hb⟩;have n0_:=Aside0.mk (blk_below (g:=gb319) (o:=.cells #[.int .i64 a0_0,.int .i64 a0_1,.string a0_2,.slice A0_3 l0_3.length c0_3,.string a0_4,.int .i64 a0_5] 59 (0,0)) (by (with_reducible repeat (first|refine blk_drewN ?_ _|refine blk_drew ?_|refine blk_alloc ?_ _));exact BK319.out) hb);have n1_:=Aside0.mk (below_step (by repeat (first|(with_reducible first|exact HB.out|apply below_alloc|apply pw_below_drewN|apply below_drew1|refine below_set ?_ GE319.out)|exact HB.out)) hb);clear BK319;clear HB;have BK319:=n0_;have HB:=n1_;clear n0_ n1_;(try clear hb);(try clear hb2);(try clear hk);(try clear hi)))
        go_ret
        exact ⟨by first|rfl|(simp [errW_none,errW_some]<;>rfl)|(simp [*,errW_none,errW_some]<;>rfl),by repeat (first|(with_reducible first|exact HB.out|apply below_alloc|apply pw_below_drewN|apply below_drew1|refine below_set ?_ GE319.out)|exact HB.out)⟩
       ·rw [if_neg c22] at H
        have c22b0:(a0_4.toList==([]:List UInt8))=false:=beq_eq_false_iff_ne.mpr c22
        have c22b1:(a0_4.toList != ([]:List UInt8))=true:=bne_iff_ne.mpr c22
        obtain rfl:=Option.some.inj H
        have hcz26_0:wc.cell? ⟨gb319,0,none⟩=some (.int .i64 a0_0):=(blk_cell BK319.out 0).trans rfl
        have hcz26_1:wc.cell? ⟨gb319,1,none⟩=some (.int .i64 a0_1):=(blk_cell BK319.out 1).trans rfl
        have hcz26_2:wc.cell? ⟨gb319,2,none⟩=some (.string a0_2):=(blk_cell BK319.out 2).trans rfl
        have hcz26_3:wc.cell? ⟨gb319,3,none⟩=some (.slice A0_3 l0_3.length c0_3):=(blk_cell BK319.out 3).trans rfl
        have hcz26_4:wc.cell? ⟨gb319,4,none⟩=some (.string a0_4):=(blk_cell BK319.out 4).trans rfl
        have hcz26_5:wc.cell? ⟨gb319,5,none⟩=some (.int .i64 a0_5):=(blk_cell BK319.out 5).trans rfl
        have hfz26_0:=blk_frozen BK319.out 0
        have hfz26_1:=blk_frozen BK319.out 1
        have hfz26_2:=blk_frozen BK319.out 2
        have hfz26_3:=blk_frozen BK319.out 3
        have hfz26_4:=blk_frozen BK319.out 4
        have hfz26_5:=blk_frozen BK319.out 5
        go_wp2
        go_ret
        exact ⟨by first|rfl|(simp [errW_none,errW_some]<;>rfl)|(simp [*,errW_none,errW_some]<;>rfl),by repeat (first|(with_reducible first|exact HB.out|apply below_alloc|apply pw_below_drewN|apply below_drew1|refine below_set ?_ GE319.out)|exact HB.out)⟩
     ·rw [if_neg c19] at H
      have c19b0:(a0_1==2)=false:=beq_eq_false_iff_ne.mpr c19
      have c19b1:(a0_1 != 2)=true:=bne_iff_ne.mpr c19
      by_cases c27:a0_1=3
      ·rw [if_pos c27] at H
       have c27b0:(a0_1==3)=true:=beq_iff_eq.mpr c27
       have c27b1:(a0_1 != 3)=false:=bne_eq_false_iff_eq.mpr c27
       clear c27
       by_cases c28:a0_4.toList=([]:List UInt8)
       ·rw [if_pos c28] at H
        have c28b0:(a0_4.toList==([]:List UInt8))=true:=beq_iff_eq.mpr c28
        have c28b1:(a0_4.toList != ([]:List UInt8))=false:=bne_eq_false_iff_eq.mpr c28
        clear c28
        obtain rfl:=Option.some.inj H
        have hcz29_0:wc.cell? ⟨gb319,0,none⟩=some (.int .i64 a0_0):=(blk_cell BK319.out 0).trans rfl
        have hcz29_1:wc.cell? ⟨gb319,1,none⟩=some (.int .i64 a0_1):=(blk_cell BK319.out 1).trans rfl
        have hcz29_2:wc.cell? ⟨gb319,2,none⟩=some (.string a0_2):=(blk_cell BK319.out 2).trans rfl
        have hcz29_3:wc.cell? ⟨gb319,3,none⟩=some (.slice A0_3 l0_3.length c0_3):=(blk_cell BK319.out 3).trans rfl
        have hcz29_4:wc.cell? ⟨gb319,4,none⟩=some (.string a0_4):=(blk_cell BK319.out 4).trans rfl
        have hcz29_5:wc.cell? ⟨gb319,5,none⟩=some (.int .i64 a0_5):=(blk_cell BK319.out 5).trans rfl
        have hfz29_0:=blk_frozen BK319.out 0
        have hfz29_1:=blk_frozen BK319.out 1
        have hfz29_2:=blk_frozen BK319.out 2
        have hfz29_3:=blk_frozen BK319.out 3
        have hfz29_4:=blk_frozen BK319.out 4
        have hfz29_5:=blk_frozen BK319.out 5
        go_wp2
        go_ret
        exact ⟨by first|rfl|(simp [errW_none,errW_some]<;>rfl)|(simp [*,errW_none,errW_some]<;>rfl),by repeat (first|(with_reducible first|exact HB.out|apply below_alloc|apply pw_below_drewN|apply below_drew1|refine below_set ?_ GE319.out)|exact HB.out)⟩
       ·rw [if_neg c28] at H
        have c28b0:(a0_4.toList==([]:List UInt8))=false:=beq_eq_false_iff_ne.mpr c28
        have c28b1:(a0_4.toList != ([]:List UInt8))=true:=bne_iff_ne.mpr c28
        by_cases c30:a0_2.toList=([]:List UInt8)
        ·rw [if_pos c30] at H
         have c30b0:(a0_2.toList==([]:List UInt8))=true:=beq_iff_eq.mpr c30
         have c30b1:(a0_2.toList != ([]:List UInt8))=false:=bne_eq_false_iff_eq.mpr c30
         clear c30
         by_cases c31:(l0_3.length:Int)=0
         ·rw [if_pos c31] at H
          have c31b0:((l0_3.length:Int)==0)=true:=beq_iff_eq.mpr c31
          have c31b1:((l0_3.length:Int) != 0)=false:=bne_eq_false_iff_eq.mpr c31
          clear c31
          obtain rfl:=Option.some.inj H
          have hcz32_0:wc.cell? ⟨gb319,0,none⟩=some (.int .i64 a0_0):=(blk_cell BK319.out 0).trans rfl
          have hcz32_1:wc.cell? ⟨gb319,1,none⟩=some (.int .i64 a0_1):=(blk_cell BK319.out 1).trans rfl
          have hcz32_2:wc.cell? ⟨gb319,2,none⟩=some (.string a0_2):=(blk_cell BK319.out 2).trans rfl
          have hcz32_3:wc.cell? ⟨gb319,3,none⟩=some (.slice A0_3 l0_3.length c0_3):=(blk_cell BK319.out 3).trans rfl
          have hcz32_4:wc.cell? ⟨gb319,4,none⟩=some (.string a0_4):=(blk_cell BK319.out 4).trans rfl
          have hcz32_5:wc.cell? ⟨gb319,5,none⟩=some (.int .i64 a0_5):=(blk_cell BK319.out 5).trans rfl
          have hfz32_0:=blk_frozen BK319.out 0
          have hfz32_1:=blk_frozen BK319.out 1
          have hfz32_2:=blk_frozen BK319.out 2
          have hfz32_3:=blk_frozen BK319.out 3
          have hfz32_4:=blk_frozen BK319.out 4
          have hfz32_5:=blk_frozen BK319.out 5
          go_wp2
          go_ret
          exact ⟨by first|rfl|(simp [errW_none,errW_some]<;>rfl)|(simp [*,errW_none,errW_some]<;>rfl),by repeat (first|(with_reducible first|exact HB.out|apply below_alloc|apply pw_below_drewN|apply below_drew1|refine below_set ?_ GE319.out)|exact HB.out)⟩
         ·rw [if_neg c31] at H
          have c31b0:((l0_3.length:Int)==0)=false:=beq_eq_false_iff_ne.mpr c31
          have c31b1:((l0_3.length:Int) != 0)=true:=bne_iff_ne.mpr c31
          have c31b2:¬ (l0_3=[]):=fun h_=>c31 (by rw [h_];rfl)
          obtain rfl:=Option.some.inj H
          have hcz33_0:wc.cell? ⟨gb319,0,none⟩=some (.int .i64 a0_0):=(blk_cell BK319.out 0).trans rfl
          have hcz33_1:wc.cell? ⟨gb319,1,none⟩=some (.int .i64 a0_1):=(blk_cell BK319.out 1).trans rfl
          have hcz33_2:wc.cell? ⟨gb319,2,none⟩=some (.string a0_2):=(blk_cell BK319.out 2).trans rfl
          have hcz33_3:wc.cell? ⟨gb319,3,none⟩=some (.slice A0_3 l0_3.length c0_3):=(blk_cell BK319.out 3).trans rfl
          have hcz33_4:wc.cell? ⟨gb319,4,none⟩=some (.string a0_4):=(blk_cell BK319.out 4).trans rfl
          have hcz33_5:wc.cell? ⟨gb319,5,none⟩=some (.int .i64 a0_5):=(blk_cell BK319.out 5).trans rfl
          have hfz33_0:=blk_frozen BK319.out 0
          have hfz33_1:=blk_frozen BK319.out 1
          have hfz33_2:=blk_frozen BK319.out 2
          have hfz33_3:=blk_frozen BK319.out 3
          have hfz33_4:=blk_frozen BK319.out 4
          have hfz33_5:=blk_frozen BK319.out 5
          go_wp2
          go_ret
          exact ⟨by first|rfl|(simp [errW_none,errW_some]<;>rfl)|(simp [*,errW_none,errW_some]<;>rfl),by repeat (first|(with_reducible first|exact HB.out|apply below_alloc|apply pw_below_drewN|apply below_drew1|refine below_set ?_ GE319.out)|exact HB.out)⟩
        ·rw [if_neg c30] at H
         have c30b0:(a0_2.toList==([]:List UInt8))=false:=beq_eq_false_iff_ne.mpr c30
         have c30b1:(a0_2.toList != ([]:List UInt8))=true:=bne_iff_ne.mpr c30
         obtain rfl:=Option.some.inj H
         have hcz34_0:wc.cell? ⟨gb319,0,none⟩=some (.int .i64 a0_0):=(blk_cell BK319.out 0).trans rfl
         have hcz34_1:wc.cell? ⟨gb319,1,none⟩=some (.int .i64 a0_1):=(blk_cell BK319.out 1).trans rfl
         have hcz34_2:wc.cell? ⟨gb319,2,none⟩=some (.string a0_2):=(blk_cell BK319.out 2).trans rfl
         have hcz34_3:wc.cell? ⟨gb319,3,none⟩=some (.slice A0_3 l0_3.length c0_3):=(blk_cell BK319.out 3).trans rfl
         have hcz34_4:wc.cell? ⟨gb319,4,none⟩=some (.string a0_4):=(blk_cell BK319.out 4).trans rfl
         have hcz34_5:wc.cell? ⟨gb319,5,none⟩=some (.int .i64 a0_5):=(blk_cell BK319.out 5).trans rfl
         have hfz34_0:=blk_frozen BK319.out 0
         have hfz34_1:=blk_frozen BK319.out 1
         have hfz34_2:=blk_frozen BK319.out 2
         have hfz34_3:=blk_frozen BK319.out 3
         have hfz34_4:=blk_frozen BK319.out 4
         have hfz34_5:=blk_frozen BK319.out 5
         go_wp2
         go_ret
         exact ⟨by first|rfl|(simp [errW_none,errW_some]<;>rfl)|(simp [*,errW_none,errW_some]<;>rfl),by repeat (first|(with_reducible first|exact HB.out|apply below_alloc|apply pw_below_drewN|apply below_drew1|refine below_set ?_ GE319.out)|exact HB.out)⟩
      ·rw [if_neg c27] at H
       have c27b0:(a0_1==3)=false:=beq_eq_false_iff_ne.mpr c27
       have c27b1:(a0_1 != 3)=true:=bne_iff_ne.mpr c27
       by_cases c35:a0_1=4
       ·rw [if_pos c35] at H
        have c35b0:(a0_1==4)=true:=beq_iff_eq.mpr c35
        have c35b1:(a0_1 != 4)=false:=bne_eq_false_iff_eq.mpr c35
        clear c35
        by_cases c36:a0_2.toList=([]:List UInt8)
        ·rw [if_pos c36] at H
         have c36b0:(a0_2.toList==([]:List UInt8))=true:=beq_iff_eq.mpr c36
         have c36b1:(a0_2.toList != ([]:List UInt8))=false:=bne_eq_false_iff_eq.mpr c36
         clear c36
         by_cases c37:(l0_3.length:Int)=0
         ·rw [if_pos c37] at H
          have c37b0:((l0_3.length:Int)==0)=true:=beq_iff_eq.mpr c37
          have c37b1:((l0_3.length:Int) != 0)=false:=bne_eq_false_iff_eq.mpr c37
          clear c37
          obtain rfl:=Option.some.inj H
          have hcz38_0:wc.cell? ⟨gb319,0,none⟩=some (.int .i64 a0_0):=(blk_cell BK319.out 0).trans rfl
          have hcz38_1:wc.cell? ⟨gb319,1,none⟩=some (.int .i64 a0_1):=(blk_cell BK319.out 1).trans rfl
          have hcz38_2:wc.cell? ⟨gb319,2,none⟩=some (.string a0_2):=(blk_cell BK319.out 2).trans rfl
          have hcz38_3:wc.cell? ⟨gb319,3,none⟩=some (.slice A0_3 l0_3.length c0_3):=(blk_cell BK319.out 3).trans rfl
          have hcz38_4:wc.cell? ⟨gb319,4,none⟩=some (.string a0_4):=(blk_cell BK319.out 4).trans rfl
          have hcz38_5:wc.cell? ⟨gb319,5,none⟩=some (.int .i64 a0_5):=(blk_cell BK319.out 5).trans rfl
          have hfz38_0:=blk_frozen BK319.out 0
          have hfz38_1:=blk_frozen BK319.out 1
          have hfz38_2:=blk_frozen BK319.out 2
          have hfz38_3:=blk_frozen BK319.out 3
          have hfz38_4:=blk_frozen BK319.out 4
          have hfz38_5:=blk_frozen BK319.out 5
          go_wp2
          go_ret
          exact ⟨by first|rfl|(simp [errW_none,errW_some]<;>rfl)|(simp [*,errW_none,errW_some]<;>rfl),by repeat (first|(with_reducible first|exact HB.out|apply below_alloc|apply pw_below_drewN|apply below_drew1|refine below_set ?_ GE319.out)|exact HB.out)⟩
         ·rw [if_neg c37] at H
          have c37b0:((l0_3.length:Int)==0)=false:=beq_eq_false_iff_ne.mpr c37
          have c37b1:((l0_3.length:Int) != 0)=true:=bne_iff_ne.mpr c37
          have c37b2:¬ (l0_3=[]):=fun h_=>c37 (by rw [h_];rfl)
          obtain rfl:=Option.some.inj H
          have hcz39_0:wc.cell? ⟨gb319,0,none⟩=some (.int .i64 a0_0):=(blk_cell BK319.out 0).trans rfl
          have hcz39_1:wc.cell? ⟨gb319,1,none⟩=some (.int .i64 a0_1):=(blk_cell BK319.out 1).trans rfl
          have hcz39_2:wc.cell? ⟨gb319,2,none⟩=some (.string a0_2):=(blk_cell BK319.out 2).trans rfl
          have hcz39_3:wc.cell? ⟨gb319,3,none⟩=some (.slice A0_3 l0_3.length c0_3):=(blk_cell BK319.out 3).trans rfl
          have hcz39_4:wc.cell? ⟨gb319,4,none⟩=some (.string a0_4):=(blk_cell BK319.out 4).trans rfl
          have hcz39_5:wc.cell? ⟨gb319,5,none⟩=some (.int .i64 a0_5):=(blk_cell BK319.out 5).trans rfl
          have hfz39_0:=blk_frozen BK319.out 0
          have hfz39_1:=blk_frozen BK319.out 1
          have hfz39_2:=blk_frozen BK319.out 2
          have hfz39_3:=blk_frozen BK319.out 3
          have hfz39_4:=blk_frozen BK319.out 4
          have hfz39_5:=blk_frozen BK319.out 5
          go_wp2
          go_ret
          exact ⟨by first|rfl|(simp [errW_none,errW_some]<;>rfl)|(simp [*,errW_none,errW_some]<;>rfl),by repeat (first|(with_reducible first|exact HB.out|apply below_alloc|apply pw_below_drewN|apply below_drew1|refine below_set ?_ GE319.out)|exact HB.out)⟩
        ·rw [if_neg c36] at H
         have c36b0:(a0_2.toList==([]:List UInt8))=false:=beq_eq_false_iff_ne.mpr c36
         have c36b1:(a0_2.toList != ([]:List UInt8))=true:=bne_iff_ne.mpr c36
         obtain rfl:=Option.some.inj H
         have hcz40_0:wc.cell? ⟨gb319,0,none⟩=some (.int .i64 a0_0):=(blk_cell BK319.out 0).trans rfl
         have hcz40_1:wc.cell? ⟨gb319,1,none⟩=some (.int .i64 a0_1):=(blk_cell BK319.out 1).trans rfl
         have hcz40_2:wc.cell? ⟨gb319,2,none⟩=some (.string a0_2):=(blk_cell BK319.out 2).trans rfl
         have hcz40_3:wc.cell? ⟨gb319,3,none⟩=some (.slice A0_3 l0_3.length c0_3):=(blk_cell BK319.out 3).trans rfl
         have hcz40_4:wc.cell? ⟨gb319,4,none⟩=some (.string a0_4):=(blk_cell BK319.out 4).trans rfl
         have hcz40_5:wc.cell? ⟨gb319,5,none⟩=some (.int .i64 a0_5):=(blk_cell BK319.out 5).trans rfl
         have hfz40_0:=blk_frozen BK319.out 0
         have hfz40_1:=blk_frozen BK319.out 1
         have hfz40_2:=blk_frozen BK319.out 2
         have hfz40_3:=blk_frozen BK319.out 3
         have hfz40_4:=blk_frozen BK319.out 4
         have hfz40_5:=blk_frozen BK319.out 5
         go_wp2
         go_ret
         exact ⟨by first|rfl|(simp [errW_none,errW_some]<;>rfl)|(simp [*,errW_none,errW_some]<;>rfl),by repeat (first|(with_reducible first|exact HB.out|apply below_alloc|apply pw_below_drewN|apply below_drew1|refine below_set ?_ GE319.out)|exact HB.out)⟩
       ·rw [if_neg c35] at H
        have c35b0:(a0_1==4)=false:=beq_eq_false_iff_ne.mpr c35
        have c35b1:(a0_1 != 4)=true:=bne_iff_ne.mpr c35
        by_cases c41:a0_1=5
        ·rw [if_pos c41] at H
         have c41b0:(a0_1==5)=true:=beq_iff_eq.mpr c41
         have c41b1:(a0_1 != 5)=false:=bne_eq_false_iff_eq.mpr c41
         clear c41
         by_cases c42:a0_4.toList=([]:List UInt8)
         ·rw [if_pos c42] at H
          have c42b0:(a0_4.toList==([]:List UInt8))=true:=beq_iff_eq.mpr c42
          have c42b1:(a0_4.toList != ([]:List UInt8))=false:=bne_eq_false_iff_eq.mpr c42
          clear c42
          by_cases c43:(l0_3.length:Int)=0
          ·rw [if_pos c43] at H
           have c43b0:((l0_3.length:Int)==0)=true:=beq_iff_eq.mpr c43
           have c43b1:((l0_3.length:Int) != 0)=false:=bne_eq_false_iff_eq.mpr c43
           clear c43
           obtain rfl:=Option.some.inj H
           have hcz44_0:wc.cell? ⟨gb319,0,none⟩=some (.int .i64 a0_0):=(blk_cell BK319.out 0).trans rfl
           have hcz44_1:wc.cell? ⟨gb319,1,none⟩=some (.int .i64 a0_1):=(blk_cell BK319.out 1).trans rfl
           have hcz44_2:wc.cell? ⟨gb319,2,none⟩=some (.string a0_2):=(blk_cell BK319.out 2).trans rfl
           have hcz44_3:wc.cell? ⟨gb319,3,none⟩=some (.slice A0_3 l0_3.length c0_3):=(blk_cell BK319.out 3).trans rfl
           have hcz44_4:wc.cell? ⟨gb319,4,none⟩=some (.string a0_4):=(blk_cell BK319.out 4).trans rfl
           have hcz44_5:wc.cell? ⟨gb319,5,none⟩=some (.int .i64 a0_5):=(blk_cell BK319.out 5).trans rfl
           have hfz44_0:=blk_frozen BK319.out 0
           have hfz44_1:=blk_frozen BK319.out 1
           have hfz44_2:=blk_frozen BK319.out 2
           have hfz44_3:=blk_frozen BK319.out 3
           have hfz44_4:=blk_frozen BK319.out 4
           have hfz44_5:=blk_frozen BK319.out 5
           go_wp2
           go_ret
           exact ⟨by first|rfl|(simp [errW_none,errW_some]<;>rfl)|(simp [*,errW_none,errW_some]<;>rfl),by repeat (first|(with_reducible first|exact HB.out|apply below_alloc|apply pw_below_drewN|apply below_drew1|refine below_set ?_ GE319.out)|exact HB.out)⟩
          ·rw [if_neg c43] at H
           have c43b0:((l0_3.length:Int)==0)=false:=beq_eq_false_iff_ne.mpr c43
           have c43b1:((l0_3.length:Int) != 0)=true:=bne_iff_ne.mpr c43
           have c43b2:¬ (l0_3=[]):=fun h_=>c43 (by rw [h_];rfl)
           obtain rfl:=Option.some.inj H
           have hcz45_0:wc.cell? ⟨gb319,0,none⟩=some (.int .i64 a0_0):=(blk_cell BK319.out 0).trans rfl
           have hcz45_1:wc.cell? ⟨gb319,1,none⟩=some (.int .i64 a0_1):=(blk_cell BK319.out 1).trans rfl
           have hcz45_2:wc.cell? ⟨gb319,2,none⟩=some (.string a0_2):=(blk_cell BK319.out 2).trans rfl
           have hcz45_3:wc.cell? ⟨gb319,3,none⟩=some (.slice A0_3 l0_3.length c0_3):=(blk_cell BK319.out 3).trans rfl
           have hcz45_4:wc.cell? ⟨gb319,4,none⟩=some (.string a0_4):=(blk_cell BK319.out 4).trans rfl
           have hcz45_5:wc.cell? ⟨gb319,5,none⟩=some (.int .i64 a0_5):=(blk_cell BK319.out 5).trans rfl
           have hfz45_0:=blk_frozen BK319.out 0
           have hfz45_1:=blk_frozen BK319.out 1
           have hfz45_2:=blk_frozen BK319.out 2
           have hfz45_3:=blk_frozen BK319.out 3
           have hfz45_4:=blk_frozen BK319.out 4
           have hfz45_5:=blk_frozen BK319.out 5
           go_wp2
           go_ret
           exact ⟨by first|rfl|(simp [errW_none,errW_some]<;>rfl)|(simp [*,errW_none,errW_some]<;>rfl),by repeat (first|(with_reducible first|exact HB.out|apply below_alloc|apply pw_below_drewN|apply below_drew1|refine below_set ?_ GE319.out)|exact HB.out)⟩
         ·rw [if_neg c42] at H
          have c42b0:(a0_4.toList==([]:List UInt8))=false:=beq_eq_false_iff_ne.mpr c42
          have c42b1:(a0_4.toList != ([]:List UInt8))=true:=bne_iff_ne.mpr c42
          obtain rfl:=Option.some.inj H
          have hcz46_0:wc.cell? ⟨gb319,0,none⟩=some (.int .i64 a0_0):=(blk_cell BK319.out 0).trans rfl
          have hcz46_1:wc.cell? ⟨gb319,1,none⟩=some (.int .i64 a0_1):=(blk_cell BK319.out 1).trans rfl
          have hcz46_2:wc.cell? ⟨gb319,2,none⟩=some (.string a0_2):=(blk_cell BK319.out 2).trans rfl
          have hcz46_3:wc.cell? ⟨gb319,3,none⟩=some (.slice A0_3 l0_3.length c0_3):=(blk_cell BK319.out 3).trans rfl
          have hcz46_4:wc.cell? ⟨gb319,4,none⟩=some (.string a0_4):=(blk_cell BK319.out 4).trans rfl
          have hcz46_5:wc.cell? ⟨gb319,5,none⟩=some (.int .i64 a0_5):=(blk_cell BK319.out 5).trans rfl
          have hfz46_0:=blk_frozen BK319.out 0
          have hfz46_1:=blk_frozen BK319.out 1
          have hfz46_2:=blk_frozen BK319.out 2
          have hfz46_3:=blk_frozen BK319.out 3
          have hfz46_4:=blk_frozen BK319.out 4
          have hfz46_5:=blk_frozen BK319.out 5
          go_wp2
          go_ret
          exact ⟨by first|rfl|(simp [errW_none,errW_some]<;>rfl)|(simp [*,errW_none,errW_some]<;>rfl),by repeat (first|(with_reducible first|exact HB.out|apply below_alloc|apply pw_below_drewN|apply below_drew1|refine below_set ?_ GE319.out)|exact HB.out)⟩
        ·rw [if_neg c41] at H
         have c41b0:(a0_1==5)=false:=beq_eq_false_iff_ne.mpr c41
         have c41b1:(a0_1 != 5)=true:=bne_iff_ne.mpr c41
         obtain rfl:=Option.some.inj H
         have hcz47_0:wc.cell? ⟨gb319,0,none⟩=some (.int .i64 a0_0):=(blk_cell BK319.out 0).trans rfl
         have hcz47_1:wc.cell? ⟨gb319,1,none⟩=some (.int .i64 a0_1):=(blk_cell BK319.out 1).trans rfl
         have hcz47_2:wc.cell? ⟨gb319,2,none⟩=some (.string a0_2):=(blk_cell BK319.out 2).trans rfl
         have hcz47_3:wc.cell? ⟨gb319,3,none⟩=some (.slice A0_3 l0_3.length c0_3):=(blk_cell BK319.out 3).trans rfl
         have hcz47_4:wc.cell? ⟨gb319,4,none⟩=some (.string a0_4):=(blk_cell BK319.out 4).trans rfl
         have hcz47_5:wc.cell? ⟨gb319,5,none⟩=some (.int .i64 a0_5):=(blk_cell BK319.out 5).trans rfl
         have hfz47_0:=blk_frozen BK319.out 0
         have hfz47_1:=blk_frozen BK319.out 1
         have hfz47_2:=blk_frozen BK319.out 2
         have hfz47_3:=blk_frozen BK319.out 3
         have hfz47_4:=blk_frozen BK319.out 4
         have hfz47_5:=blk_frozen BK319.out 5
         go_wp2
         go_ret
         exact ⟨by first|rfl|(simp [errW_none,errW_some]<;>rfl)|(simp [*,errW_none,errW_some]<;>rfl),by repeat (first|(with_reducible first|exact HB.out|apply below_alloc|apply pw_below_drewN|apply below_drew1|refine below_set ?_ GE319.out)|exact HB.out)⟩
end Go.Proofs.Ytbogfagafdokeaa.QFnExactRangeText
