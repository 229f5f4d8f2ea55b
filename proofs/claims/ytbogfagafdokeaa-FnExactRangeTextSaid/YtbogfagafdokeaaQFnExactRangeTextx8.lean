import Derived.Test.YtbogfagafdokeaaQFnExactRangeTextx0
import Derived.Test.YtbogfagafdokeaaQFnExactRangeTextx6
import Derived.Test.YtbogfagafdokeaaQFnExactRangeTextx7
namespace Go.Proofs.Ytbogfagafdokeaa.QFnExactRangeText
open Go.RowKit Go.Proofs.YtbogfagafdokeaaV.PrintWords Go.Proofs.YtbogfagafdokeaaV.PrintLast Go.Proofs.YtbogfagafdokeaaV.PrintMore
attribute [local go_sem] max2_int min2_int max_two min_two max_three min_three max_four min_four
set_option linter.unusedVariables false
set_option linter.unusedSimpArgs false
/-! ### spec_l5Path: function 30 -/
def spec_l5Path.l0:Nat→List Int→Int→List Int→List (S59)→Option (List Int)
  |0,_,_,_,_=>none
  |k+1,x5,x6,x7,x241000=>if 0≤x6 then (if x6<(x5.length:Int) then (if (rd x5 x6)≥0 then ((spec_l5Number.f k x241000 (rd x5 x6) x6).bind fun t251=>((some (([t251]:List Int):List Int)).bind fun y252=>(if y252.length+x7.length<17592186044416 then (spec_l5Path.l0 k x5 (rd x5 x6) (y252++x7) x241000) else (none)))) else (some x7)) else (none)) else (none)
def spec_l5Path.f (k:Nat) (l0_0:List (S59)) (a1_0:Int) (a1_1:Int):Option (List Int):=(spec_l4Parents.f k l0_0).bind fun t242=>((spec_l4At.f k l0_0 a1_0).bind fun t245=>(spec_l5Path.l0 k t242 t245 (([a1_1]:List Int)) l0_0))
theorem spec_l5Path.mono_l:∀ k,(∀ y0 y1 y2 y3,LeO (spec_l5Path.l0 k y0 y1 y2 y3) (spec_l5Path.l0 (k+1) y0 y1 y2 y3))
 |0=>fun _ _ _ _ r h=>by simp [spec_l5Path.l0] at h
 |k+1=>by
  have ih0:=spec_l5Path.mono_l k
  ·intro y0 y1 y2 y3
   unfold spec_l5Path.l0
   repeat' first
  |(with_reducible exact ih0 _ _ _ _)
  |(with_reducible exact spec_l4At.mono _ _ _)
  |(with_reducible exact spec_l4Parents.mono _ _)
  |(with_reducible exact spec_l5Number.mono _ _ _ _)
  |(with_reducible exact LeO.refl _)
  |(with_reducible exact LeO.none _)
  |(with_reducible refine LeO.ite ?_ ?_)
  |(with_reducible refine LeO.bind ?_ (fun _=>?_))
  |exact ih0 _ _ _ _
  |exact spec_l4At.mono _ _ _
  |exact spec_l4Parents.mono _ _
  |exact spec_l5Number.mono _ _ _ _
  |exact LeO.none _
  |refine LeO.ite ?_ ?_
  |refine LeO.bind ?_ (fun _=>?_)
theorem spec_l5Path.mono:∀ a0 a1 a2 k,LeO (spec_l5Path.f k a0 a1 a2) (spec_l5Path.f (k+1) a0 a1 a2):=by
 intro a0 a1 a2 k
 have ih0:=spec_l5Path.mono_l k
 unfold spec_l5Path.f
 repeat' first
  |(with_reducible exact ih0 _ _ _ _)
  |(with_reducible exact spec_l4At.mono _ _ _)
  |(with_reducible exact spec_l4Parents.mono _ _)
  |(with_reducible exact spec_l5Number.mono _ _ _ _)
  |(with_reducible exact LeO.refl _)
  |(with_reducible exact LeO.none _)
  |(with_reducible refine LeO.ite ?_ ?_)
  |(with_reducible refine LeO.bind ?_ (fun _=>?_))
  |exact ih0 _ _ _ _
  |exact spec_l4At.mono _ _ _
  |exact spec_l4Parents.mono _ _
  |exact spec_l5Number.mono _ _ _ _
  |exact LeO.none _
  |refine LeO.ite ?_ ?_
  |refine LeO.bind ?_ (fun _=>?_)
def spec_l5Path.T5:Bool×List (List Nat×List Nat):=(true,[([],[]),([0],[0]),([],[]),([],[]),([2,3],[2,3]),([4],[4]),([],[]),([1,5,6],[1,5,6]),([7],[7]),([],[]),([8,9,7],[8,9]),([10,10,0,1,2,3,4,5,6,7,8,9,10],[9,10])])
def spec_l5Path.B5:List Nat:=[0,1,0,0,12,28,0,127,255,0,1023,2047]
theorem spec_l5Path.tab5:rtab .any (opsOf Try.f30 5)=spec_l5Path.T5:=by kernel_rfl
theorem spec_l5Path.bits5:waitsOk spec_l5Path.T5.2 spec_l5Path.B5=true:=by kernel_rfl
set_option maxHeartbeats 8000000 in
set_option maxRecDepth 100000 in
theorem spec_l5Path.calls (k:Nat) (A0_0:Option Addr) (c0_0:Nat) (l0_0:List (S59)) (a1_0:Int) (a1_1:Int) (r:List Int) (w:World) (hr0_0:Kd.C k59 w A0_0 l0_0.length l0_0) (hc0_0:l0_0.length≤c0_0) (h:spec_l5Path.f k l0_0 a1_0 a1_1=some r) :
  Calls Try.prog 30 #[.agg #[.slice A0_0 l0_0.length c0_0],.agg #[.int .i64 a1_0,.int .i64 a1_1]] w fun e w'=>∃ v0_:Value,e=.returned (v0_)∧Kd.R (Kd.int .i64) 3 w' w.heap.size (fun _=>True) v0_ r∧Below w.heap.size w w':=by
 have hu31:=Try.underlying31
 have hu33:=Try.underlying33
 have HR0_0:=Aside0.mk hr0_0
 have HC0_0:=Aside0.mk hc0_0
 clear hr0_0 hc0_0
 have HB:=Aside0.mk (Below.refl w.heap.size w)
 have H:((spec_l4Parents.f k l0_0).bind fun t242=>((spec_l4At.f k l0_0 a1_0).bind fun t245=>(spec_l5Path.l0 k t242 t245 (([a1_1]:List Int)) l0_0)))=some r:=h
 clear h
 replace H:=Option.bind_eq_some_iff.mp H
 obtain ⟨t242,A30,H⟩:=H
 try dsimp only at H
 have A3:=Aside0.mk A30
 clear A30
 replace H:=Option.bind_eq_some_iff.mp H
 obtain ⟨t245,A40,H⟩:=H
 try dsimp only at H
 have A4:=Aside0.mk A40
 clear A40
 obtain ⟨y246,hy246⟩:∃ y_:List Int,y_=(([a1_1]:List Int)):=⟨_,rfl⟩
 replace H:(spec_l5Path.l0 k t242 t245 y246 l0_0)=some r:=by first|(rw [hy246];with_reducible exact H)|(have H2_:=(Option.bind_some _ _).symm.trans H;rw [hy246];with_reducible exact H2_)|(have H2_:=(Option.bind_some _ _).symm.trans H;with_reducible exact H2_)|with_reducible exact H|(rw [hy246];exact H)|exact H
 have Ny246:=Aside0.mk hy246
 clear hy246
 have H':=Aside0.mk H
 clear H
 go_enter Try.func30,Try.ntmps30
 go_wp2_with (first|((with_reducible refine gate_dst (N:=2) rfl ?_);refine box_event rfl (N:=2) rfl (cs:=#[.slice A0_0 l0_0.length c0_0]) (t:=31) ?hr ?_;(case hr=>first|(go_simp;done)|(go_simp;rfl));intro gb240 hg w5 hbox hb;have n0_:=Aside0.mk (below_step (by repeat (first|exact HB.out|apply below_alloc|apply pw_below_drewN|apply below_drew1)) hb);have n1_:=Aside0.mk (hbox);have n2_:=Aside0.mk ((by rw [hg];exact (below_size (by repeat (first|exact HB.out|apply below_alloc|apply pw_below_drewN|apply below_drew1))):w.heap.size≤gb240));have n3_:=Aside0.mk ((by rw [hg];exact (below_size (by repeat (first|exact HB.out|apply below_alloc|apply pw_below_drewN|apply below_drew1))):w.heap.size≤gb240));clear HB;have HB:=n0_;have BK240:=n1_;have GW240:=n2_;have GE240:=n3_;clear n0_ n1_ n2_ n3_;clear hb hbox hg)|((with_reducible refine gate_dst (N:=3) rfl ?_);refine box_event rfl (N:=3) rfl (cs:=#[.int .i64 a1_0,.int .i64 a1_1]) (t:=33) ?hr ?_;(case hr=>first|(go_simp;done)|(go_simp;rfl));intro gb241 hg w6 hbox hb;have n0_:=Aside0.mk (blk_below (g:=gb240) (o:=.cells #[.slice A0_0 l0_0.length c0_0] 31 (0,0)) (by (with_reducible repeat (first|refine blk_drewN ?_ _|refine blk_drew ?_|refine blk_alloc ?_ _));exact BK240.out) hb);have n1_:=Aside0.mk (below_step (by repeat (first|exact HB.out|apply below_alloc|apply pw_below_drewN|apply below_drew1|refine below_set ?_ GE240.out)) hb);have n2_:=Aside0.mk (hbox);have n3_:=Aside0.mk ((by rw [hg];exact (below_size (by repeat (first|exact HB.out|apply below_alloc|apply pw_below_drewN|apply below_drew1|refine below_set ?_ GE240.out))):w.heap.size≤gb241));have n4_:=Aside0.mk ((by rw [hg];exact (below_size (by repeat (first|exact HB.out|apply below_alloc|apply pw_below_drewN|apply below_drew1|refine below_set ?_ GE240.out))):w.heap.size≤gb241));have n5_:=Aside0.mk ((by rw [hg];exact Nat.ne_of_lt (blk_lt (g:=gb240) (o:=.cells #[.slice A0_0 l0_0.length c0_0] 31 (0,0)) (by (with_reducible repeat (first|refine blk_drewN ?_ _|refine blk_drew ?_|refine blk_alloc ?_ _));exact BK240.out)):gb240≠gb241));have n6_:=Aside0.mk ((by rw [hg];exact Nat.ne_of_gt (blk_lt (g:=gb240) (o:=.cells #[.slice A0_0 l0_0.length c0_0] 31 (0,0)) (by (with_reducible repeat (first|refine blk_drewN ?_ _|refine blk_drew ?_|refine blk_alloc ?_ _));exact BK240.out)):gb241≠gb240));clear BK240;clear HB;have BK240:=n0_;have HB:=n1_;have BK241:=n2_;have GW241:=n3_;have GE241:=n4_;have NB240_241:=n5_;have NB241_240:=n6_;clear n0_ n1_ n2_ n3_ n4_ n5_ n6_;clear hb hbox hg;have hnb7:=NB240_241.out;have hnc7:=NB241_240.out;have hcz8_0:w6.cell? ⟨gb240,0,none⟩=some (.slice A0_0 l0_0.length c0_0):=(blk_cell BK240.out 0).trans rfl;have hfz8_0:=blk_frozen BK240.out 0)|((with_reducible refine gate_callee (f:=41) rfl ?_);refine goesL_ (some 10) rfl rfl Try.func41 (by kernel_rfl) rfl #[.slice A0_0 l0_0.length c0_0] rfl (by (try simp only [List.map_toArray,List.map_cons,List.map_nil]);first|done|rfl|(simp only [List.length_drop,List.length_take];rfl)) ?_;(with_reducible refine (spec_l4Parents.calls k _ _ l0_0 t242 _ ?side1 ?side2 A3.out).mono ?_);(case side1=>repeat (first|exact (Kd.C_below HR0_0.out HB.out)|(with_reducible refine Kd.C_alloc ?_ _)|(with_reducible refine Kd.C_drewN ?_ _)|(with_reducible refine Kd.C_drew ?_)));(case side2=>exact HC0_0.out);rintro e w9 ⟨v243,rfl,ho0,hb⟩;refine ⟨_,rfl,?_⟩;have n0_:=Aside0.mk (Kd.R_lower ho0 (below_size (by repeat (first|exact HB.out|apply below_alloc|apply pw_below_drewN|apply below_drew1|refine below_set ?_ GE240.out|refine below_set ?_ GE241.out))));have n1_:=Aside0.mk (blk_below (g:=gb240) (o:=.cells #[.slice A0_0 l0_0.length c0_0] 31 (0,0)) (by (with_reducible repeat (first|refine blk_drewN ?_ _|refine blk_drew ?_|refine blk_alloc ?_ _));exact BK240.out) hb);have n2_:=Aside0.mk (blk_below (g:=gb241) (o:=.cells #[.int .i64 a1_0,.int .i64 a1_1] 33 (0,0)) (by (with_reducible repeat (first|refine blk_drewN ?_ _|refine blk_drew ?_|refine blk_alloc ?_ _));exact BK241.out) hb);have n3_:=Aside0.mk (below_step (by repeat (first|exact HB.out|apply below_alloc|apply pw_below_drewN|apply below_drew1|refine below_set ?_ GE240.out|refine below_set ?_ GE241.out)) hb);clear BK240;clear BK241;clear HB;have HO244:=n0_;have BK240:=n1_;have BK241:=n2_;have HB:=n3_;clear n0_ n1_ n2_ n3_;(try clear hb);(try clear hb2);(try clear hk);(try clear hi);(try clear ho0);have hcz10_0:w9.cell? ⟨gb240,0,none⟩=some (.slice A0_0 l0_0.length c0_0):=(blk_cell BK240.out 0).trans rfl;have hfz10_0:=blk_frozen BK240.out 0;have hcz11_0:w9.cell? ⟨gb241,0,none⟩=some (.int .i64 a1_0):=(blk_cell BK241.out 0).trans rfl;have hcz11_1:w9.cell? ⟨gb241,1,none⟩=some (.int .i64 a1_1):=(blk_cell BK241.out 1).trans rfl;have hfz11_0:=blk_frozen BK241.out 0;have hfz11_1:=blk_frozen BK241.out 1)|((with_reducible refine gate_callee (f:=28) rfl ?_);refine goesL_ (some 14) rfl rfl Try.func28 (by kernel_rfl) rfl #[.agg #[.slice A0_0 l0_0.length c0_0],.int .i64 a1_0] rfl (by (try simp only [List.map_toArray,List.map_cons,List.map_nil]);first|done|rfl|(simp only [List.length_drop,List.length_take];rfl)) ?_;(with_reducible refine (spec_l4At.calls k _ _ l0_0 a1_0 t245 _ ?side1 ?side2 A4.out).mono ?_);(case side1=>repeat (first|exact (Kd.C_below HR0_0.out HB.out)|(with_reducible refine Kd.C_alloc ?_ _)|(with_reducible refine Kd.C_drewN ?_ _)|(with_reducible refine Kd.C_drew ?_)));(case side2=>exact HC0_0.out);rintro e w12 ⟨rfl,hb⟩;refine ⟨_,rfl,?_⟩;have n0_:=Aside0.mk (Kd.R_below (by (with_reducible repeat (first|apply Kd.R_alloc|apply Kd.R_drewN|apply Kd.R_drew));exact HO244.out) hb);have n1_:=Aside0.mk (blk_below (g:=gb240) (o:=.cells #[.slice A0_0 l0_0.length c0_0] 31 (0,0)) (by (with_reducible repeat (first|refine blk_drewN ?_ _|refine blk_drew ?_|refine blk_alloc ?_ _));exact BK240.out) hb);have n2_:=Aside0.mk (blk_below (g:=gb241) (o:=.cells #[.int .i64 a1_0,.int .i64 a1_1] 33 (0,0)) (by (with_reducible repeat (first|refine blk_drewN ?_ _|refine blk_drew ?_|refine blk_alloc ?_ _));exact BK241.out) hb);have n3_:=Aside0.mk (below_step (by repeat (first|exact HB.out|apply below_alloc|apply pw_below_drewN|apply below_drew1|refine below_set ?_ GE240.out|refine below_set ?_ GE241.out)) hb);clear HO244;clear BK240;clear BK241;clear HB;have HO244:=n0_;have BK240:=n1_;have BK241:=n2_;have HB:=n3_;clear n0_ n1_ n2_ n3_;(try clear hb);(try clear hb2);(try clear hk);(try clear hi);have hcz13_0:w12.cell? ⟨gb241,0,none⟩=some (.int .i64 a1_0):=(blk_cell BK241.out 0).trans rfl;have hcz13_1:w12.cell? ⟨gb241,1,none⟩=some (.int .i64 a1_1):=(blk_cell BK241.out 1).trans rfl;have hfz13_0:=blk_frozen BK241.out 0;have hfz13_1:=blk_frozen BK241.out 1)|((with_reducible refine gate_dst (N:=17) rfl ?_);refine Kd.R_lit (Kd.int .i64) _ 3 ?hg (N:=17) ?hd (xs:=([a1_1]:List Int)) (inner:=[.int .i64 a1_1]) (ok:=fun _=>True) (okp:=fun _=>True) ?hr ?hp (fun _ hk=>hk) trivial (Below.refl _ _) (Nat.le_refl _) (by simp) ?_;(case hd=>rfl);(case hg=>rfl);(case hr=>first|(go_simp;done)|(go_simp;rfl));(case hp=>exact (Reps.one (show Kd.M (Kd.int .i64) _ _ _ a1_1 [.int .i64 a1_1] from rfl) (Reps.none _ _)));intro v247 w14 ho15 hb hg_ hnew_;clear hg_ hnew_;(first|rw [← Ny246.out] at ho15|(simp only [Int.reduceToNat] at ho15;rw [← Ny246.out] at ho15));have n0_:=Aside0.mk (Kd.R_elder' (by (with_reducible repeat (first|apply Kd.R_alloc|apply Kd.R_drewN|apply Kd.R_drew));exact HO244.out) (Kd.R_base ho15) hb);have n1_:=Aside0.mk (Kd.R_lower (Kd.R_new' ho15 (Kd.R_lt (by (with_reducible repeat (first|apply Kd.R_alloc|apply Kd.R_drewN|apply Kd.R_drew));exact HO244.out))) (below_size (by repeat (first|exact HB.out|apply below_alloc|apply pw_below_drewN|apply below_drew1|refine below_set ?_ GE240.out|refine below_set ?_ GE241.out))));have n2_:=Aside0.mk (blk_below (g:=gb240) (o:=.cells #[.slice A0_0 l0_0.length c0_0] 31 (0,0)) (by (with_reducible repeat (first|refine blk_drewN ?_ _|refine blk_drew ?_|refine blk_alloc ?_ _));exact BK240.out) hb);have n3_:=Aside0.mk (blk_below (g:=gb241) (o:=.cells #[.int .i64 a1_0,.int .i64 a1_1] 33 (0,0)) (by (with_reducible repeat (first|refine blk_drewN ?_ _|refine blk_drew ?_|refine blk_alloc ?_ _));exact BK241.out) hb);have n4_:=Aside0.mk (below_step (by repeat (first|exact HB.out|apply below_alloc|apply pw_below_drewN|apply below_drew1|refine below_set ?_ GE240.out|refine below_set ?_ GE241.out)) hb);clear HO244;clear BK240;clear BK241;clear HB;have HO244:=n0_;have HO248:=n1_;have BK240:=n2_;have BK241:=n3_;have HB:=n4_;clear n0_ n1_ n2_ n3_ n4_;clear hb ho15))
 go_loopg [6,7] k (fun kq v6 v7 w'=>∃ (x6_1:Int) (x7_1:List Int),v6=.int .i64 x6_1∧Aside0 (spec_l5Path.l0 kq t242 x6_1 x7_1 l0_0=some r)∧Aside0 (kq≤k)∧Aside0 (Kd.R (Kd.int .i64) 3 w' w.heap.size (fun k_=>some k_≠(v7:Value).ownBlock) v243 t242)∧Aside0 (Kd.R (Kd.int .i64) 3 w' w.heap.size (fun k_=>some k_≠(v243:Value).ownBlock) v7 x7_1)∧Aside0 (w'.heap[gb240]?=some (.cells #[(.slice A0_0 l0_0.length c0_0)] 31 (0,0)))∧Aside0 (w'.heap[gb241]?=some (.cells #[.int .i64 a1_0,.int .i64 a1_1] 33 (0,0)))∧Aside0 (Below w.heap.size w w'))
 case atStart=>exact ⟨(t245),(y246),(by first|rfl|(simp;done)|(simp [*];done)),H',⟨Nat.le_refl _⟩,⟨by (with_reducible repeat (first|apply Kd.R_alloc|apply Kd.R_drewN|apply Kd.R_drew));exact Kd.R_mono HO244.out (fun _ hk=>hk.2)⟩,⟨by (with_reducible repeat (first|apply Kd.R_alloc|apply Kd.R_drewN|apply Kd.R_drew));exact Kd.R_mono HO248.out (fun _ hk=>hk.2)⟩,⟨by (with_reducible repeat (first|refine blk_drewN ?_ _|refine blk_drew ?_|refine blk_alloc ?_ _));exact BK240.out⟩,⟨by (with_reducible repeat (first|refine blk_drewN ?_ _|refine blk_drew ?_|refine blk_alloc ?_ _));exact BK241.out⟩,⟨by repeat (first|exact HB.out|apply below_alloc|apply pw_below_drewN|apply below_drew1|refine below_set ?_ GE240.out|refine below_set ?_ GE241.out)⟩⟩
 case round=>
  clear H'
  try clear hcz10_0;try clear hcz11_0;try clear hcz11_1;try clear hcz13_0;try clear hcz13_1;try clear hcz8_0;try clear hfz10_0;try clear hfz11_0;try clear hfz11_1;try clear hfz13_0;try clear hfz13_1;try clear hfz8_0
  obtain ⟨x6_1,x7_1,rfl,HA,HK1,HO_5,HO_7,BK240,BK241,HB⟩:=hrel
  cases gk with
 |zero=>exact absurd HA.out (by simp [spec_l5Path.l0])
 |succ k1=>
   have H:=HA.out
   clear HA
   simp only [spec_l5Path.l0] at H
   by_cases c16:0≤x6_1
   ·rw [if_pos c16] at H
    have c16b0:decide (0≤x6_1)=true:=decide_eq_true c16
    clear c16
    by_cases c17:x6_1<(t242.length:Int)
    ·rw [if_pos c17] at H
     have c17b0:decide (x6_1<(t242.length:Int))=true:=decide_eq_true c17
     clear c17
     by_cases c18:(rd t242 x6_1)≥0
     ·rw [if_pos c18] at H
      have c18b0:decide (0≤(rd t242 x6_1))=true:=decide_eq_true c18
      clear c18
      replace H:=Option.bind_eq_some_iff.mp H
      obtain ⟨t251,A190,H⟩:=H
      try dsimp only at H
      have A19:=Aside0.mk A190
      clear A190
      obtain ⟨y252,hy252⟩:∃ y_:List Int,y_=(([t251]:List Int)):=⟨_,rfl⟩
      replace H:(if y252.length+x7_1.length<17592186044416 then (spec_l5Path.l0 k1 t242 (rd t242 x6_1) (y252++x7_1) l0_0) else (none))=some r:=by first|(rw [hy252];with_reducible exact H)|(have H2_:=(Option.bind_some _ _).symm.trans H;rw [hy252];with_reducible exact H2_)|(have H2_:=(Option.bind_some _ _).symm.trans H;with_reducible exact H2_)|with_reducible exact H|(rw [hy252];exact H)|exact H
      have Ny252:=Aside0.mk hy252
      clear hy252
      by_cases c20:y252.length+x7_1.length<17592186044416
      ·rw [if_pos c20] at H
       have LMc20:=Aside0.mk c20
       clear c20
       obtain ⟨y255,hy255⟩:∃ y_:List Int,y_=(y252++x7_1):=⟨_,rfl⟩
       replace H:(spec_l5Path.l0 k1 t242 (rd t242 x6_1) y255 l0_0)=some r:=by first|(rw [hy255];with_reducible exact H)|(have H2_:=(Option.bind_some _ _).symm.trans H;rw [hy255];with_reducible exact H2_)|(have H2_:=(Option.bind_some _ _).symm.trans H;with_reducible exact H2_)|with_reducible exact H|(rw [hy255];exact H)|exact H
       have Ny255:=Aside0.mk hy255
       clear hy255
       have H':=Aside0.mk H
       clear H
       obtain ⟨Ao21,co21,eo21⟩:=Kd.R_slice HO_5.out
       subst eo21
       have p249:0≤(x6_1:Int):=of_decide_eq_true (by first|(with_reducible assumption)|assumption)
       have q249:x6_1<(t242.length:Int):=of_decide_eq_true (by first|(with_reducible assumption)|assumption)
       obtain ⟨ad249,e249,hx249_0⟩:=Kd.at_int (Kd.R_reads' HO_5.out).2.2 x6_1 p249 q249
       cases e249
       replace p249:=eq_true p249
       replace q249:=eq_true q249
       try go_wp2
       have n0_:=Aside0.mk (Kd.R_drew HO_5.out)
       have n1_:=Aside0.mk (Kd.R_drew HO_7.out)
       have n2_:=Aside0.mk (blk_drew BK240.out)
       have n3_:=Aside0.mk (blk_drew BK241.out)
       have n4_:=Aside0.mk (below_drew1 HB.out)
       clear HO_5
       clear HO_7
       clear BK240
       clear BK241
       clear HB
       have HO_5:=n0_
       have HO_7:=n1_
       have BK240:=n2_
       have BK241:=n3_
       have HB:=n4_
       clear n0_ n1_ n2_ n3_ n4_
       have p250:0≤(x6_1:Int):=of_decide_eq_true (by first|(with_reducible assumption)|assumption)
       have q250:x6_1<(t242.length:Int):=of_decide_eq_true (by first|(with_reducible assumption)|assumption)
       obtain ⟨ad250,e250,hx250_0⟩:=Kd.at_int (Kd.R_reads' HO_5.out).2.2 x6_1 p250 q250
       obtain rfl:ad249=ad250:=(by injection e250)
       replace p250:=eq_true p250
       replace q250:=eq_true q250
       refine start_ (n:=12) (S:=fun w'=>w'.cell? ⟨gb240,0,none⟩=some (.slice A0_0 l0_0.length c0_0)∧w'.cell? (ad249.add (x6_1).toNat)=some (.int .i64 (rd t242 x6_1))) (ds:=[10]) #[false,false,false,false,false,false,false,false,false,false,false,false] (by kernel_rfl) rfl rfl ⟨(blk_cell BK240.out 0).trans rfl,hx250_0⟩ (fun hHeld=>?_);refine with_tabW spec_l5Path.tab5 spec_l5Path.bits5 (fun HT_ HW_=>?_)
       generalize wr.drew=w22 at HO_5 HO_7 BK240 BK241 HB hx250_0 hHeld ⊢
       refine pure_ (i:=0) (N:=some 23) (v:=?_) (a':=?_) #[true,false,false,false,false,false,false,false,false,false,false,false] rfl rfl (any_of HT_.out (by kernel_rfl)) (fun _ _ _ h=>h) (Or.inl ⟨by rfl,?_⟩) ?_ ?_
       rotate_left
       ·intro w'
        go_simp
        with_reducible rfl
       rotate_left
       ·simp only [Act.put,List.setIfInBounds_toArray,List.set_cons_zero,List.set_cons_succ,i64_w,i32_w]
        rfl
       refine pure_ (i:=2) (N:=some 25) (v:=?_) (a':=?_) #[true,false,true,false,false,false,false,false,false,false,false,false] rfl rfl (any_of HT_.out (by kernel_rfl)) (fun _ _ _ h=>h) (Or.inl ⟨by rfl,?_⟩) ?_ ?_
       rotate_left
       ·intro w'
        go_simp
        with_reducible rfl
       rotate_left
       ·simp only [Act.put,List.setIfInBounds_toArray,List.set_cons_zero,List.set_cons_succ,i64_w,i32_w]
        rfl
       refine pure_ (i:=3) (N:=some 26) (v:=?_) (a':=?_) #[true,false,true,true,false,false,false,false,false,false,false,false] rfl rfl (any_of HT_.out (by kernel_rfl)) (fun _ _ _ h=>h) (Or.inl ⟨by rfl,?_⟩) ?_ ?_
       rotate_left
       ·intro w'
        go_simp
        with_reducible rfl
       rotate_left
       ·simp only [Act.put,List.setIfInBounds_toArray,List.set_cons_zero,List.set_cons_succ,i64_w,i32_w]
        rfl
       refine pure_ (i:=4) (N:=some 27) (v:=?_) (a':=?_) #[true,false,true,true,true,false,false,false,false,false,false,false] rfl rfl (any_of HT_.out (by kernel_rfl)) (fun _ _ _ h=>h) (Or.inl ⟨by rfl,?_⟩) ?_ ?_
       rotate_left
       ·intro w'
        go_simp
        with_reducible rfl
       rotate_left
       ·simp only [Act.put,List.setIfInBounds_toArray,List.set_cons_zero,List.set_cons_succ,i64_w,i32_w]
        rfl
       refine pure_ (i:=6) (N:=some 29) (v:=?_) (a':=?_) #[true,false,true,true,true,false,true,false,false,false,false,false] rfl rfl (any_of HT_.out (by kernel_rfl)) (fun _ _ _ h=>h) (Or.inl ⟨by rfl,?_⟩) ?_ ?_
       rotate_left
       ·intro w'
        go_simp
        with_reducible rfl
       rotate_left
       ·simp only [Act.put,List.setIfInBounds_toArray,List.set_cons_zero,List.set_cons_succ,i64_w,i32_w]
        rfl
       refine pure_ (i:=9) (N:=some 32) (v:=?_) (a':=?_) #[true,false,true,true,true,false,true,false,false,true,false,false] rfl rfl (any_of HT_.out (by kernel_rfl)) (fun _ _ _ h=>h) (Or.inl ⟨by rfl,?_⟩) ?_ ?_
       rotate_left
       ·intro w'
        go_simp
        with_reducible rfl
       rotate_left
       ·simp only [Act.put,List.setIfInBounds_toArray,List.set_cons_zero,List.set_cons_succ,i64_w,i32_w]
        rfl
       refine take_ (i:=1) (N:=some 24) (v:=?_) (a':=?_) #[true,true,true,true,true,false,true,false,false,true,false,false] rfl rfl (take_ofW HT_.out HW_.out (by kernel_rfl)) (fun _ _ _ h=>h) (Or.inl ⟨by rfl,?_⟩) hHeld ?_ ?_
       rotate_left
       ·rintro w' ⟨s0,s1⟩
        go_simp
        with_reducible rfl
       rotate_left
       ·simp only [Act.put,List.setIfInBounds_toArray,List.set_cons_zero,List.set_cons_succ,i64_w,i32_w]
        rfl
       refine take_ (i:=5) (N:=some 28) (v:=?_) (a':=?_) #[true,true,true,true,true,true,true,false,false,true,false,false] rfl rfl (take_ofW HT_.out HW_.out (by kernel_rfl)) (fun _ _ _ h=>h) (Or.inl ⟨by rfl,?_⟩) hHeld ?_ ?_
       rotate_left
       ·rintro w' ⟨s0,s1⟩
        go_simp
        with_reducible rfl
       rotate_left
       ·simp only [Act.put,List.setIfInBounds_toArray,List.set_cons_zero,List.set_cons_succ,i64_w,i32_w]
        rfl
       refine one_ (i:=7) (N:=some 30) #[true,true,true,true,true,true,true,true,false,true,false,false] rfl rfl (one_of HT_.out (by kernel_rfl)) (by decide) (fun K hK=>?_)
       refine goes_ Try.func42 (by kernel_rfl) rfl #[.slice A0_0 l0_0.length c0_0,.int .i64 (rd t242 x6_1),.int .i64 x6_1] (by rfl) rfl rfl (by (try simp only [List.map_toArray,List.map_cons,List.map_nil]);first|done|rfl|(simp only [List.length_drop,List.length_take];rfl)) ?_
       with_reducible refine (spec_l5Number.calls k1 _ _ l0_0 (rd t242 x6_1) x6_1 t251 _ ?side1 ?side2 A19.out).mono ?_
       (case side1=>repeat (first|exact (Kd.C_below HR0_0.out HB.out)|(with_reducible refine Kd.C_alloc ?_ _)|(with_reducible refine Kd.C_drewN ?_ _)|(with_reducible refine Kd.C_drew ?_)))
       (case side2=>exact HC0_0.out)
       rintro e w23 ⟨rfl,hb⟩
       have HS1_:=(hb.cell (World.block_lt_of_cell? _ _ (hHeld.2))).trans (hHeld.2)
       refine ⟨_,rfl,?_⟩
       have n0_:=Aside0.mk (Kd.R_below (by (with_reducible repeat (first|apply Kd.R_alloc|apply Kd.R_drewN|apply Kd.R_drew));exact HO_5.out) hb)
       have n1_:=Aside0.mk (Kd.R_below (by (with_reducible repeat (first|apply Kd.R_alloc|apply Kd.R_drewN|apply Kd.R_drew));exact HO_7.out) hb)
       have n2_:=Aside0.mk (blk_below (g:=gb240) (o:=.cells #[.slice A0_0 l0_0.length c0_0] 31 (0,0)) (by (with_reducible repeat (first|refine blk_drewN ?_ _|refine blk_drew ?_|refine blk_alloc ?_ _));exact BK240.out) hb)
       have n3_:=Aside0.mk (blk_below (g:=gb241) (o:=.cells #[.int .i64 a1_0,.int .i64 a1_1] 33 (0,0)) (by (with_reducible repeat (first|refine blk_drewN ?_ _|refine blk_drew ?_|refine blk_alloc ?_ _));exact BK241.out) hb)
       have n4_:=Aside0.mk (below_step (by repeat (first|exact HB.out|apply below_alloc|apply pw_below_drewN|apply below_drew1|refine below_set ?_ GE240.out|refine below_set ?_ GE241.out)) hb)
       clear HO_5
       clear HO_7
       clear BK240
       clear BK241
       clear HB
       have HO_5:=n0_
       have HO_7:=n1_
       have BK240:=n2_
       have BK241:=n3_
       have HB:=n4_
       clear n0_ n1_ n2_ n3_ n4_
       try clear hb
       try clear hb2
       try clear hk
       try clear hi
       refine hK.out _ _ ⟨(blk_cell BK240.out 0).trans rfl,HS1_⟩ (fun hHeld=>?_)
       clear hK K
       refine norm_ (a':=?_) ?_ ?_
       rotate_left
       ·show Act.put _ (some 30) _=_
        simp only [Act.put,List.setIfInBounds_toArray,List.set_cons_zero,List.set_cons_succ,i64_w,i32_w]
        rfl
       refine one_ (i:=8) (N:=some 31) #[true,true,true,true,true,true,true,true,true,true,false,false] rfl rfl (one_of HT_.out (by kernel_rfl)) (by decide) (fun K hK=>?_)
       refine Kd.R_lit_step (Kd.int .i64) _ 3 ?hg (N:=31) ?hd (xs:=([t251]:List Int)) (inner:=[.int .i64 t251]) (ok:=fun _=>True) (okp:=fun _=>True) ?hr ?hp (fun _ hk=>hk) trivial (Below.refl _ _) (Nat.le_refl _) (by simp) ?_;(case hd=>rfl);(case hg=>rfl);(case hr=>first|(go_simp;done)|(go_simp;rfl));(case hp=>exact (Reps.one (show Kd.M (Kd.int .i64) _ _ _ t251 [.int .i64 t251] from rfl) (Reps.none _ _)))
       intro v253 w24 ho25 hb hg_ hnew_
       have HS1_:=(hb.cell (World.block_lt_of_cell? _ _ (hHeld.2))).trans (hHeld.2)
       clear hg_ hnew_
       (first|rw [← Ny252.out] at ho25|(simp only [Int.reduceToNat] at ho25;rw [← Ny252.out] at ho25))
       have n0_:=Aside0.mk (Kd.R_elder' (by (with_reducible repeat (first|apply Kd.R_alloc|apply Kd.R_drewN|apply Kd.R_drew));exact HO_5.out) (Kd.R_base ho25) hb)
       have n1_:=Aside0.mk (Kd.R_elder' (by (with_reducible repeat (first|apply Kd.R_alloc|apply Kd.R_drewN|apply Kd.R_drew));exact HO_7.out) (Kd.R_base ho25) hb)
       have n2_:=Aside0.mk (Kd.R_lower (Kd.R_new' (Kd.R_new' ho25 (Kd.R_lt (by (with_reducible repeat (first|apply Kd.R_alloc|apply Kd.R_drewN|apply Kd.R_drew));exact HO_5.out))) (Kd.R_lt (by (with_reducible repeat (first|apply Kd.R_alloc|apply Kd.R_drewN|apply Kd.R_drew));exact HO_7.out))) (below_size (by repeat (first|exact HB.out|apply below_alloc|apply pw_below_drewN|apply below_drew1|refine below_set ?_ GE240.out|refine below_set ?_ GE241.out))))
       have n3_:=Aside0.mk (blk_below (g:=gb240) (o:=.cells #[.slice A0_0 l0_0.length c0_0] 31 (0,0)) (by (with_reducible repeat (first|refine blk_drewN ?_ _|refine blk_drew ?_|refine blk_alloc ?_ _));exact BK240.out) hb)
       have n4_:=Aside0.mk (blk_below (g:=gb241) (o:=.cells #[.int .i64 a1_0,.int .i64 a1_1] 33 (0,0)) (by (with_reducible repeat (first|refine blk_drewN ?_ _|refine blk_drew ?_|refine blk_alloc ?_ _));exact BK241.out) hb)
       have n5_:=Aside0.mk (below_step (by repeat (first|exact HB.out|apply below_alloc|apply pw_below_drewN|apply below_drew1|refine below_set ?_ GE240.out|refine below_set ?_ GE241.out)) hb)
       clear HO_5
       clear HO_7
       clear BK240
       clear BK241
       clear HB
       have HO_5:=n0_
       have HO_7:=n1_
       have HO254:=n2_
       have BK240:=n3_
       have BK241:=n4_
       have HB:=n5_
       clear n0_ n1_ n2_ n3_ n4_ n5_
       clear hb ho25
       obtain ⟨Ao27,co27,eo27⟩:=Kd.R_slice HO_7.out
       (first|subst eo27|(injection eo27 with f1_ f2_ f3_;have f4_:=f1_.symm;have f5_:=f3_.symm;clear f1_ f2_ f3_;subst f4_;subst f5_))
       refine hK.out _ _ ⟨(blk_cell BK240.out 0).trans rfl,HS1_⟩ (fun hHeld=>?_)
       clear hK K
       refine norm_ (a':=?_) ?_ ?_
       rotate_left
       ·show Act.put _ (some 31) _=_
        simp only [Act.put,List.setIfInBounds_toArray,List.set_cons_zero,List.set_cons_succ,i64_w,i32_w]
        rfl
       refine last_ (i:=10) (N:=some 33) #[true,true,true,true,true,true,true,true,true,true,true,false] rfl rfl (one_of HT_.out (by kernel_rfl)) (by decide) (fun K hK=>?_)
       refine Kd.R_append_rows_step (Kd.int .i64) (w0:=w) w.heap.size (by rfl) (.tmp 31) (.tmp 32) 67 3 (.int .i64 0) 8 rfl Try.underlying67 info3 rfl (by decide) (by omega) v253 y252 x7_1 _ _ _ (fun k_=>some k_≠(.slice (some ad249) t242.length co21:Value).ownBlock∧some k_≠(.slice Ao27 x7_1.length co27:Value).ownBlock) (fun _=>False) rfl rfl ?aO ?aR (fun _ _ h=>h) (fun _ h=>h.elim) ?aF ?aB ?aS ?aL ?_
       (case aR=>repeat (first|exact (Kd.R_reads' HO_7.out).2.2|(with_reducible refine Kd.C_alloc ?_ _)|(with_reducible refine Kd.C_drewN ?_ _)|(with_reducible refine Kd.C_drew ?_)))
       (case aB=>exact (by repeat (first|exact HB.out|apply below_alloc|apply pw_below_drewN|apply below_drew1|refine below_set ?_ GE240.out|refine below_set ?_ GE241.out)))
       (case aF=>exact (fun k_ hk=>⟨Kd.fresh' (Kd.R_lt (by (with_reducible repeat (first|apply Kd.R_alloc|apply Kd.R_drewN|apply Kd.R_drew));exact HO_5.out)) k_ hk,Kd.fresh' (Kd.R_lt (by (with_reducible repeat (first|apply Kd.R_alloc|apply Kd.R_drewN|apply Kd.R_drew));exact HO_7.out)) k_ hk⟩))
       (case aO=>exact (by (with_reducible repeat (first|apply Kd.R_alloc|apply Kd.R_drewN|apply Kd.R_drew));exact Kd.R_mono HO254.out (fun _ hk=>⟨hk.1.2,hk.2⟩)))
       (case aS=>exact (below_size (by repeat (first|exact HB.out|apply below_alloc|apply pw_below_drewN|apply below_drew1|refine below_set ?_ GE240.out|refine below_set ?_ GE241.out))))
       (case aL=>have:=LMc20.out;omega)
       intro v256 w26 ho hb hg hat
       rw [← Ny255.out] at ho
       have n0_:=Aside0.mk (Kd.R_after (ok:=(fun k_=>some k_≠(.slice Ao27 x7_1.length co27:Value).ownBlock)) (by (with_reducible repeat (first|apply Kd.R_alloc|apply Kd.R_drewN|apply Kd.R_drew));exact HO_5.out) hg hat)
       have n1_:=Aside0.mk (Kd.R_after (ok:=(fun k_=>some k_≠(.slice (some ad249) t242.length co21:Value).ownBlock)) (by (with_reducible repeat (first|apply Kd.R_alloc|apply Kd.R_drewN|apply Kd.R_drew));exact HO_7.out) hg hat)
       have n2_:=Aside0.mk (blk_grown (g:=gb240) (o:=.cells #[.slice A0_0 l0_0.length c0_0] 31 (0,0)) (by (with_reducible repeat (first|refine blk_drewN ?_ _|refine blk_drew ?_|refine blk_alloc ?_ _));exact BK240.out) hg (Kd.R_ne HO254.out BK240.out (by decide)))
       have n3_:=Aside0.mk (blk_grown (g:=gb241) (o:=.cells #[.int .i64 a1_0,.int .i64 a1_1] 33 (0,0)) (by (with_reducible repeat (first|refine blk_drewN ?_ _|refine blk_drew ?_|refine blk_alloc ?_ _));exact BK241.out) hg (Kd.R_ne HO254.out BK241.out (by decide)))
       have n4_:=Aside0.mk (hb)
       have n5_:=Aside0.mk (ho)
       clear HO_5
       clear HO_7
       clear BK240
       clear BK241
       clear HB
       clear HO254
       have HO_5:=n0_
       have HO_7:=n1_
       have BK240:=n2_
       have BK241:=n3_
       have HB:=n4_
       have HO257:=n5_
       clear n0_ n1_ n2_ n3_ n4_ n5_
       clear ho hb hg hat
       refine hK.out _ _ ?_
       clear hK K
       refine norm_ (a':=?_) ?_ ?_
       rotate_left
       ·show Act.put _ (some 33) _=_
        simp only [Act.put,List.setIfInBounds_toArray,List.set_cons_zero,List.set_cons_succ,i64_w,i32_w]
        rfl
       refine pure_ (i:=11) (N:=some 7) (v:=?_) (a':=?_) #[true,true,true,true,true,true,true,true,true,true,true,true] rfl rfl (any_of HT_.out (by kernel_rfl)) (fun _ _ _ h=>h) (Or.inl ⟨by rfl,?_⟩) ?_ ?_
       rotate_left
       ·intro w'
        go_simp
        with_reducible rfl
       rotate_left
       ·simp only [Act.put,List.setIfInBounds_toArray,List.set_cons_zero,List.set_cons_succ,i64_w,i32_w]
        rfl
       refine done_ (done_of HT_.out (by kernel_rfl)) ?_
       have p258:0≤(x6_1:Int):=of_decide_eq_true (by first|(with_reducible assumption)|assumption)
       have q258:x6_1<(t242.length:Int):=of_decide_eq_true (by first|(with_reducible assumption)|assumption)
       obtain ⟨ad258,e258,hx258_0⟩:=Kd.at_int (Kd.R_reads' HO_5.out).2.2 x6_1 p258 q258
       obtain rfl:ad249=ad258:=(by injection e258)
       replace p258:=eq_true p258
       replace q258:=eq_true q258
       try go_wp2
       go_roundg k1
       case measure=>have:=HK1.out;omega
       case rel=>exact ⟨(rd t242 x6_1),(y255),(by first|rfl|(simp;done)|(simp [*];done)),H',⟨by have:=HK1.out;omega⟩,⟨by (with_reducible repeat (first|apply Kd.R_alloc|apply Kd.R_drewN|apply Kd.R_drew));exact Kd.R_mono HO_5.out (fun _ hk=>hk.2)⟩,⟨by (with_reducible repeat (first|apply Kd.R_alloc|apply Kd.R_drewN|apply Kd.R_drew));exact Kd.R_mono HO257.out (fun _ hk=>hk.1)⟩,⟨by (with_reducible repeat (first|refine blk_drewN ?_ _|refine blk_drew ?_|refine blk_alloc ?_ _));exact BK240.out⟩,⟨by (with_reducible repeat (first|refine blk_drewN ?_ _|refine blk_drew ?_|refine blk_alloc ?_ _));exact BK241.out⟩,⟨by repeat (first|exact HB.out|apply below_alloc|apply pw_below_drewN|apply below_drew1|refine below_set ?_ GE240.out|refine below_set ?_ GE241.out)⟩⟩
      ·rw [if_neg c20] at H
       exact absurd H (by simp)
     ·rw [if_neg c18] at H
      have c18b0:decide (0≤(rd t242 x6_1))=false:=decide_eq_false c18
      clear c18
      obtain rfl:=Option.some.inj H
      obtain ⟨Ao28,co28,eo28⟩:=Kd.R_slice HO_5.out
      subst eo28
      have p249:0≤(x6_1:Int):=of_decide_eq_true (by first|(with_reducible assumption)|assumption)
      have q249:x6_1<(t242.length:Int):=of_decide_eq_true (by first|(with_reducible assumption)|assumption)
      obtain ⟨ad249,e249,hx249_0⟩:=Kd.at_int (Kd.R_reads' HO_5.out).2.2 x6_1 p249 q249
      cases e249
      replace p249:=eq_true p249
      replace q249:=eq_true q249
      go_wp2
      go_ret
      exact ⟨_,by first|rfl|(simp [errW_none,errW_some]<;>rfl)|(simp [*,errW_none,errW_some]<;>rfl),by (with_reducible repeat (first|apply Kd.R_alloc|apply Kd.R_drewN|apply Kd.R_drew));exact Kd.R_mono HO_7.out (fun _ hk=>trivial),by repeat (first|exact HB.out|apply below_alloc|apply pw_below_drewN|apply below_drew1|refine below_set ?_ GE240.out|refine below_set ?_ GE241.out)⟩
    ·rw [if_neg c17] at H
     exact absurd H (by simp)
   ·rw [if_neg c16] at H
    exact absurd H (by simp)
/-! ### spec_l5Less: function 16 -/
mutual
def spec_l5Less.l0:Nat→List Int→List Int→Int→Option (Bool)
  |0,_,_,_=>none
  |k+1,x7,x8,x9=>if x9<(x7.length:Int) then (spec_l5Less.j1 k x7 x8 x9 (decide (x9<(x8.length:Int)))) else (spec_l5Less.j1 k x7 x8 x9 false)
def spec_l5Less.j1:Nat→List Int→List Int→Int→Bool→Option (Bool)
  |0,_,_,_,_=>none
  |k+1,x7,x8,x9,x27=>if x27=true then (if x9=(wrap64 ((x7.length:Int) - 1)) then (spec_l5Less.j2 k x7 x8 x9 (x9==(wrap64 ((x7.length:Int) - 1))) (x9==(wrap64 ((x8.length:Int) - 1))) (x9==(wrap64 ((x8.length:Int) - 1)))) else (spec_l5Less.j2 k x7 x8 x9 (x9==(wrap64 ((x7.length:Int) - 1))) (x9==(wrap64 ((x8.length:Int) - 1))) false)) else (some false)
def spec_l5Less.j2:Nat→List Int→List Int→Int→Bool→Bool→Bool→Option (Bool)
  |0,_,_,_,_,_,_=>none
  |k+1,x7,x8,x9,x10,x11,x43=>if x43=true then (if 0≤x9 then (if x9<(x7.length:Int) then (if x9<(x8.length:Int) then (some (decide ((rd x7 x9)<(rd x8 x9)))) else (none)) else (none)) else (none)) else (if x10=true then (if 0≤x9 then (if x9<(x7.length:Int) then (if x9<(x8.length:Int) then (some (decide ((rd x7 x9)≤(rd x8 x9)))) else (none)) else (none)) else (none)) else (if 0≤x9 then (if x9<(x7.length:Int) then (if x9<(x8.length:Int) then (if (rd x7 x9)=(rd x8 x9) then (if x11=true then (some false) else (spec_l5Less.l0 k x7 x8 (wrap64 (x9+1)))) else (some (decide ((rd x7 x9)<(rd x8 x9))))) else (none)) else (none)) else (none)))
end
def spec_l5Less.f (k:Nat) (l0_0:List (S59)) (a1_0:Int) (a1_1:Int) (a2_0:Int) (a2_1:Int):Option (Bool):=(spec_l5Path.f k l0_0 a1_0 a1_1).bind fun t262=>((spec_l5Path.f k l0_0 a2_0 a2_1).bind fun t265=>(spec_l5Less.l0 k t262 t265 0))
theorem spec_l5Less.mono_l:∀ k,(∀ y0 y1 y2,LeO (spec_l5Less.l0 k y0 y1 y2) (spec_l5Less.l0 (k+1) y0 y1 y2))∧(∀ y0 y1 y2 y3,LeO (spec_l5Less.j1 k y0 y1 y2 y3) (spec_l5Less.j1 (k+1) y0 y1 y2 y3))∧(∀ y0 y1 y2 y3 y4 y5,LeO (spec_l5Less.j2 k y0 y1 y2 y3 y4 y5) (spec_l5Less.j2 (k+1) y0 y1 y2 y3 y4 y5))
 |0=>⟨fun _ _ _ r h=>by simp [spec_l5Less.l0] at h,fun _ _ _ _ r h=>by simp [spec_l5Less.j1] at h,fun _ _ _ _ _ _ r h=>by simp [spec_l5Less.j2] at h⟩
 |k+1=>by
  obtain ⟨ih0,ih1,ih2⟩:=spec_l5Less.mono_l k
  refine ⟨?_,?_,?_⟩
  ·intro y0 y1 y2
   unfold spec_l5Less.l0
   repeat' first
  |(with_reducible exact ih0 _ _ _)
  |(with_reducible exact ih1 _ _ _ _)
  |(with_reducible exact ih2 _ _ _ _ _ _)
  |(with_reducible exact spec_l5Path.mono _ _ _ _)
  |(with_reducible exact LeO.refl _)
  |(with_reducible exact LeO.none _)
  |(with_reducible refine LeO.ite ?_ ?_)
  |(with_reducible refine LeO.bind ?_ (fun _=>?_))
  |exact ih0 _ _ _
  |exact ih1 _ _ _ _
  |exact ih2 _ _ _ _ _ _
  |exact spec_l5Path.mono _ _ _ _
  |exact LeO.none _
  |refine LeO.ite ?_ ?_
  |refine LeO.bind ?_ (fun _=>?_)
  ·intro y0 y1 y2 y3
   unfold spec_l5Less.j1
   repeat' first
  |(with_reducible exact ih0 _ _ _)
  |(with_reducible exact ih1 _ _ _ _)
  |(with_reducible exact ih2 _ _ _ _ _ _)
  |(with_reducible exact spec_l5Path.mono _ _ _ _)
  |(with_reducible exact LeO.refl _)
  |(with_reducible exact LeO.none _)
  |(with_reducible refine LeO.ite ?_ ?_)
  |(with_reducible refine LeO.bind ?_ (fun _=>?_))
  |exact ih0 _ _ _
  |exact ih1 _ _ _ _
  |exact ih2 _ _ _ _ _ _
  |exact spec_l5Path.mono _ _ _ _
  |exact LeO.none _
  |refine LeO.ite ?_ ?_
  |refine LeO.bind ?_ (fun _=>?_)
  ·intro y0 y1 y2 y3 y4 y5
   unfold spec_l5Less.j2
   repeat' first
  |(with_reducible exact ih0 _ _ _)
  |(with_reducible exact ih1 _ _ _ _)
  |(with_reducible exact ih2 _ _ _ _ _ _)
  |(with_reducible exact spec_l5Path.mono _ _ _ _)
  |(with_reducible exact LeO.refl _)
  |(with_reducible exact LeO.none _)
  |(with_reducible refine LeO.ite ?_ ?_)
  |(with_reducible refine LeO.bind ?_ (fun _=>?_))
  |exact ih0 _ _ _
  |exact ih1 _ _ _ _
  |exact ih2 _ _ _ _ _ _
  |exact spec_l5Path.mono _ _ _ _
  |exact LeO.none _
  |refine LeO.ite ?_ ?_
  |refine LeO.bind ?_ (fun _=>?_)
theorem spec_l5Less.mono:∀ a0 a1 a2 a3 a4 k,LeO (spec_l5Less.f k a0 a1 a2 a3 a4) (spec_l5Less.f (k+1) a0 a1 a2 a3 a4):=by
 intro a0 a1 a2 a3 a4 k
 obtain ⟨ih0,ih1,ih2⟩:=spec_l5Less.mono_l k
 unfold spec_l5Less.f
 repeat' first
  |(with_reducible exact ih0 _ _ _)
  |(with_reducible exact ih1 _ _ _ _)
  |(with_reducible exact ih2 _ _ _ _ _ _)
  |(with_reducible exact spec_l5Path.mono _ _ _ _)
  |(with_reducible exact LeO.refl _)
  |(with_reducible exact LeO.none _)
  |(with_reducible refine LeO.ite ?_ ?_)
  |(with_reducible refine LeO.bind ?_ (fun _=>?_))
  |exact ih0 _ _ _
  |exact ih1 _ _ _ _
  |exact ih2 _ _ _ _ _ _
  |exact spec_l5Path.mono _ _ _ _
  |exact LeO.none _
  |refine LeO.ite ?_ ?_
  |refine LeO.bind ?_ (fun _=>?_)
set_option maxHeartbeats 8000000 in
set_option maxRecDepth 100000 in
theorem spec_l5Less.calls (k:Nat) (A0_0:Option Addr) (c0_0:Nat) (l0_0:List (S59)) (a1_0:Int) (a1_1:Int) (a2_0:Int) (a2_1:Int) (r:Bool) (w:World) (hr0_0:Kd.C k59 w A0_0 l0_0.length l0_0) (hc0_0:l0_0.length≤c0_0) (h:spec_l5Less.f k l0_0 a1_0 a1_1 a2_0 a2_1=some r) :
  Calls Try.prog 16 #[.agg #[.slice A0_0 l0_0.length c0_0],.agg #[.int .i64 a1_0,.int .i64 a1_1],.agg #[.int .i64 a2_0,.int .i64 a2_1]] w fun e w'=>e=.returned (.bool r)∧Below w.heap.size w w':=by
 have hu31:=Try.underlying31
 have hu33:=Try.underlying33
 have HR0_0:=Aside0.mk hr0_0
 have HC0_0:=Aside0.mk hc0_0
 clear hr0_0 hc0_0
 have HB:=Aside0.mk (Below.refl w.heap.size w)
 have H:((spec_l5Path.f k l0_0 a1_0 a1_1).bind fun t262=>((spec_l5Path.f k l0_0 a2_0 a2_1).bind fun t265=>(spec_l5Less.l0 k t262 t265 0)))=some r:=h
 clear h
 replace H:=Option.bind_eq_some_iff.mp H
 obtain ⟨t262,A40,H⟩:=H
 try dsimp only at H
 have A4:=Aside0.mk A40
 clear A40
 replace H:=Option.bind_eq_some_iff.mp H
 obtain ⟨t265,A50,H⟩:=H
 try dsimp only at H
 have A5:=Aside0.mk A50
 clear A50
 have H':=Aside0.mk H
 clear H
 go_enter Try.func16,Try.ntmps16
 go_wp2_with (first|((with_reducible refine gate_dst (N:=3) rfl ?_);(try (refine gate_guard (by rfl) ?_;dsimp only));refine box_event rfl (N:=3) rfl (cs:=#[.slice A0_0 l0_0.length c0_0]) (t:=31) ?hr ?_;(case hr=>first|(go_simp;done)|(go_simp;rfl));intro gb259 hg w6 hbox hb;have n0_:=Aside0.mk (below_step (by repeat (first|exact HB.out|apply below_alloc|apply pw_below_drewN|apply below_drew1)) hb);have n1_:=Aside0.mk (hbox);have n2_:=Aside0.mk ((by rw [hg];exact (below_size (by repeat (first|exact HB.out|apply below_alloc|apply pw_below_drewN|apply below_drew1))):w.heap.size≤gb259));have n3_:=Aside0.mk ((by rw [hg];exact (below_size (by repeat (first|exact HB.out|apply below_alloc|apply pw_below_drewN|apply below_drew1))):w.heap.size≤gb259));clear HB;have HB:=n0_;have BK259:=n1_;have GW259:=n2_;have GE259:=n3_;clear n0_ n1_ n2_ n3_;clear hb hbox hg)|((with_reducible refine gate_dst (N:=4) rfl ?_);(try (refine gate_guard (by rfl) ?_;dsimp only));refine box_event rfl (N:=4) rfl (cs:=#[.int .i64 a1_0,.int .i64 a1_1]) (t:=33) ?hr ?_;(case hr=>first|(go_simp;done)|(go_simp;rfl));intro gb260 hg w7 hbox hb;have n0_:=Aside0.mk (blk_below (g:=gb259) (o:=.cells #[.slice A0_0 l0_0.length c0_0] 31 (0,0)) (by (with_reducible repeat (first|refine blk_drewN ?_ _|refine blk_drew ?_|refine blk_alloc ?_ _));exact BK259.out) hb);have n1_:=Aside0.mk (below_step (by repeat (first|exact HB.out|apply below_alloc|apply pw_below_drewN|apply below_drew1|refine below_set ?_ GE259.out)) hb);have n2_:=Aside0.mk (hbox);have n3_:=Aside0.mk ((by rw [hg];exact (below_size (by repeat (first|exact HB.out|apply below_alloc|apply pw_below_drewN|apply below_drew1|refine below_set ?_ GE259.out))):w.heap.size≤gb260));have n4_:=Aside0.mk ((by rw [hg];exact (below_size (by repeat (first|exact HB.out|apply below_alloc|apply pw_below_drewN|apply below_drew1|refine below_set ?_ GE259.out))):w.heap.size≤gb260));have n5_:=Aside0.mk ((by rw [hg];exact Nat.ne_of_lt (blk_lt (g:=gb259) (o:=.cells #[.slice A0_0 l0_0.length c0_0] 31 (0,0)) (by (with_reducible repeat (first|refine blk_drewN ?_ _|refine blk_drew ?_|refine blk_alloc ?_ _));exact BK259.out)):gb259≠gb260));have n6_:=Aside0.mk ((by rw [hg];exact Nat.ne_of_gt (blk_lt (g:=gb259) (o:=.cells #[.slice A0_0 l0_0.length c0_0] 31 (0,0)) (by (with_reducible repeat (first|refine blk_drewN ?_ _|refine blk_drew ?_|refine blk_alloc ?_ _));exact BK259.out)):gb260≠gb259));clear BK259;clear HB;have BK259:=n0_;have HB:=n1_;have BK260:=n2_;have GW260:=n3_;have GE260:=n4_;have NB259_260:=n5_;have NB260_259:=n6_;clear n0_ n1_ n2_ n3_ n4_ n5_ n6_;clear hb hbox hg)|((with_reducible refine gate_dst (N:=5) rfl ?_);(try (refine gate_guard (by rfl) ?_;dsimp only));refine box_event rfl (N:=5) rfl (cs:=#[.int .i64 a2_0,.int .i64 a2_1]) (t:=33) ?hr ?_;(case hr=>first|(go_simp;done)|(go_simp;rfl));intro gb261 hg w8 hbox hb;have n0_:=Aside0.mk (blk_below (g:=gb259) (o:=.cells #[.slice A0_0 l0_0.length c0_0] 31 (0,0)) (by (with_reducible repeat (first|refine blk_drewN ?_ _|refine blk_drew ?_|refine blk_alloc ?_ _));exact BK259.out) hb);have n1_:=Aside0.mk (blk_below (g:=gb260) (o:=.cells #[.int .i64 a1_0,.int .i64 a1_1] 33 (0,0)) (by (with_reducible repeat (first|refine blk_drewN ?_ _|refine blk_drew ?_|refine blk_alloc ?_ _));exact BK260.out) hb);have n2_:=Aside0.mk (below_step (by repeat (first|exact HB.out|apply below_alloc|apply pw_below_drewN|apply below_drew1|refine below_set ?_ GE259.out|refine below_set ?_ GE260.out)) hb);have n3_:=Aside0.mk (hbox);have n4_:=Aside0.mk ((by rw [hg];exact (below_size (by repeat (first|exact HB.out|apply below_alloc|apply pw_below_drewN|apply below_drew1|refine below_set ?_ GE259.out|refine below_set ?_ GE260.out))):w.heap.size≤gb261));have n5_:=Aside0.mk ((by rw [hg];exact (below_size (by repeat (first|exact HB.out|apply below_alloc|apply pw_below_drewN|apply below_drew1|refine below_set ?_ GE259.out|refine below_set ?_ GE260.out))):w.heap.size≤gb261));have n6_:=Aside0.mk ((by rw [hg];exact Nat.ne_of_lt (blk_lt (g:=gb259) (o:=.cells #[.slice A0_0 l0_0.length c0_0] 31 (0,0)) (by (with_reducible repeat (first|refine blk_drewN ?_ _|refine blk_drew ?_|refine blk_alloc ?_ _));exact BK259.out)):gb259≠gb261));have n7_:=Aside0.mk ((by rw [hg];exact Nat.ne_of_gt (blk_lt (g:=gb259) (o:=.cells #[.slice A0_0 l0_0.length c0_0] 31 (0,0)) (by (with_reducible repeat (first|refine blk_drewN ?_ _|refine blk_drew ?_|refine blk_alloc ?_ _));exact BK259.out)):gb261≠gb259));have n8_:=Aside0.mk ((by rw [hg];exact Nat.ne_of_lt (blk_lt (g:=gb260) (o:=.cells #[.int .i64 a1_0,.int .i64 a1_1] 33 (0,0)) (by (with_reducible repeat (first|refine blk_drewN ?_ _|refine blk_drew ?_|refine blk_alloc ?_ _));exact BK260.out)):gb260≠gb261));have n9_:=Aside0.mk ((by rw [hg];exact Nat.ne_of_gt (blk_lt (g:=gb260) (o:=.cells #[.int .i64 a1_0,.int .i64 a1_1] 33 (0,0)) (by (with_reducible repeat (first|refine blk_drewN ?_ _|refine blk_drew ?_|refine blk_alloc ?_ _));exact BK260.out)):gb261≠gb260));clear BK259;clear BK260;clear HB;have BK259:=n0_;have BK260:=n1_;have HB:=n2_;have BK261:=n3_;have GW261:=n4_;have GE261:=n5_;have NB259_261:=n6_;have NB261_259:=n7_;have NB260_261:=n8_;have NB261_260:=n9_;clear n0_ n1_ n2_ n3_ n4_ n5_ n6_ n7_ n8_ n9_;clear hb hbox hg;have hnb9:=NB259_260.out;have hnc9:=NB260_259.out;have hnb10:=NB259_261.out;have hnc10:=NB261_259.out;have hcz11_0:w8.cell? ⟨gb259,0,none⟩=some (.slice A0_0 l0_0.length c0_0):=(blk_cell BK259.out 0).trans rfl;have hfz11_0:=blk_frozen BK259.out 0;have hnb12:=NB260_261.out;have hnc12:=NB261_260.out;have hcz13_0:w8.cell? ⟨gb260,0,none⟩=some (.int .i64 a1_0):=(blk_cell BK260.out 0).trans rfl;have hcz13_1:w8.cell? ⟨gb260,1,none⟩=some (.int .i64 a1_1):=(blk_cell BK260.out 1).trans rfl;have hfz13_0:=blk_frozen BK260.out 0;have hfz13_1:=blk_frozen BK260.out 1)|(go_at_call 30;(with_reducible refine (spec_l5Path.calls k _ _ l0_0 a1_0 a1_1 t262 _ ?side1 ?side2 A4.out).mono ?_);(case side1=>repeat (first|exact (Kd.C_below HR0_0.out HB.out)|(with_reducible refine Kd.C_alloc ?_ _)|(with_reducible refine Kd.C_drewN ?_ _)|(with_reducible refine Kd.C_drew ?_)));(case side2=>exact HC0_0.out);rintro e w14 ⟨v263,rfl,ho0,hb⟩;have n0_:=Aside0.mk (Kd.R_lower ho0 (below_size (by repeat (first|exact HB.out|apply below_alloc|apply pw_below_drewN|apply below_drew1|refine below_set ?_ GE259.out|refine below_set ?_ GE260.out|refine below_set ?_ GE261.out))));have n1_:=Aside0.mk (blk_below (g:=gb259) (o:=.cells #[.slice A0_0 l0_0.length c0_0] 31 (0,0)) (by (with_reducible repeat (first|refine blk_drewN ?_ _|refine blk_drew ?_|refine blk_alloc ?_ _));exact BK259.out) hb);have n2_:=Aside0.mk (blk_below (g:=gb260) (o:=.cells #[.int .i64 a1_0,.int .i64 a1_1] 33 (0,0)) (by (with_reducible repeat (first|refine blk_drewN ?_ _|refine blk_drew ?_|refine blk_alloc ?_ _));exact BK260.out) hb);have n3_:=Aside0.mk (blk_below (g:=gb261) (o:=.cells #[.int .i64 a2_0,.int .i64 a2_1] 33 (0,0)) (by (with_reducible repeat (first|refine blk_drewN ?_ _|refine blk_drew ?_|refine blk_alloc ?_ _));exact BK261.out) hb);have n4_:=Aside0.mk (below_step (by repeat (first|exact HB.out|apply below_alloc|apply pw_below_drewN|apply below_drew1|refine below_set ?_ GE259.out|refine below_set ?_ GE260.out|refine below_set ?_ GE261.out)) hb);clear BK259;clear BK260;clear BK261;clear HB;have HO264:=n0_;have BK259:=n1_;have BK260:=n2_;have BK261:=n3_;have HB:=n4_;clear n0_ n1_ n2_ n3_ n4_;(try clear hb);(try clear hb2);(try clear hk);(try clear hi);(try clear ho0);have hcz15_0:w14.cell? ⟨gb259,0,none⟩=some (.slice A0_0 l0_0.length c0_0):=(blk_cell BK259.out 0).trans rfl;have hfz15_0:=blk_frozen BK259.out 0;have hcz16_0:w14.cell? ⟨gb261,0,none⟩=some (.int .i64 a2_0):=(blk_cell BK261.out 0).trans rfl;have hcz16_1:w14.cell? ⟨gb261,1,none⟩=some (.int .i64 a2_1):=(blk_cell BK261.out 1).trans rfl;have hfz16_0:=blk_frozen BK261.out 0;have hfz16_1:=blk_frozen BK261.out 1)|(go_at_call 30;(with_reducible refine (spec_l5Path.calls k _ _ l0_0 a2_0 a2_1 t265 _ ?side1 ?side2 A5.out).mono ?_);(case side1=>repeat (first|exact (Kd.C_below HR0_0.out HB.out)|(with_reducible refine Kd.C_alloc ?_ _)|(with_reducible refine Kd.C_drewN ?_ _)|(with_reducible refine Kd.C_drew ?_)));(case side2=>exact HC0_0.out);rintro e w17 ⟨v266,rfl,ho0,hb⟩;have n0_:=Aside0.mk (Kd.R_elder' (by (with_reducible repeat (first|apply Kd.R_alloc|apply Kd.R_drewN|apply Kd.R_drew));exact HO264.out) (Kd.R_base ho0) hb);have n1_:=Aside0.mk (Kd.R_lower (Kd.R_new' ho0 (Kd.R_lt (by (with_reducible repeat (first|apply Kd.R_alloc|apply Kd.R_drewN|apply Kd.R_drew));exact HO264.out))) (below_size (by repeat (first|exact HB.out|apply below_alloc|apply pw_below_drewN|apply below_drew1|refine below_set ?_ GE259.out|refine below_set ?_ GE260.out|refine below_set ?_ GE261.out))));have n2_:=Aside0.mk (blk_below (g:=gb259) (o:=.cells #[.slice A0_0 l0_0.length c0_0] 31 (0,0)) (by (with_reducible repeat (first|refine blk_drewN ?_ _|refine blk_drew ?_|refine blk_alloc ?_ _));exact BK259.out) hb);have n3_:=Aside0.mk (blk_below (g:=gb260) (o:=.cells #[.int .i64 a1_0,.int .i64 a1_1] 33 (0,0)) (by (with_reducible repeat (first|refine blk_drewN ?_ _|refine blk_drew ?_|refine blk_alloc ?_ _));exact BK260.out) hb);have n4_:=Aside0.mk (blk_below (g:=gb261) (o:=.cells #[.int .i64 a2_0,.int .i64 a2_1] 33 (0,0)) (by (with_reducible repeat (first|refine blk_drewN ?_ _|refine blk_drew ?_|refine blk_alloc ?_ _));exact BK261.out) hb);have n5_:=Aside0.mk (below_step (by repeat (first|exact HB.out|apply below_alloc|apply pw_below_drewN|apply below_drew1|refine below_set ?_ GE259.out|refine below_set ?_ GE260.out|refine below_set ?_ GE261.out)) hb);clear HO264;clear BK259;clear BK260;clear BK261;clear HB;have HO264:=n0_;have HO267:=n1_;have BK259:=n2_;have BK260:=n3_;have BK261:=n4_;have HB:=n5_;clear n0_ n1_ n2_ n3_ n4_ n5_;(try clear hb);(try clear hb2);(try clear hk);(try clear hi);(try clear ho0)))
 repeat (go_quiet (first|((with_reducible refine gate_dst (N:=3) rfl ?_);(try (refine gate_guard (by rfl) ?_;dsimp only));refine box_event rfl (N:=3) rfl (cs:=#[.slice A0_0 l0_0.length c0_0]) (t:=31) ?hr ?_;(case hr=>first|(go_simp;done)|(go_simp;rfl));intro gb259 hg w6 hbox hb;have n0_:=Aside0.mk (below_step (by repeat (first|exact HB.out|apply below_alloc|apply pw_below_drewN|apply below_drew1)) hb);have n1_:=Aside0.mk (hbox);have n2_:=Aside0.mk ((by rw [hg];exact (below_size (by repeat (first|exact HB.out|apply below_alloc|apply pw_below_drewN|apply below_drew1))):w.heap.size≤gb259));have n3_:=Aside0.mk ((by rw [hg];exact (below_size (by repeat (first|exact HB.out|apply below_alloc|apply pw_below_drewN|apply below_drew1))):w.heap.size≤gb259));clear HB;have HB:=n0_;have BK259:=n1_;have GW259:=n2_;have GE259:=n3_;clear n0_ n1_ n2_ n3_;clear hb hbox hg)|((with_reducible refine gate_dst (N:=4) rfl ?_);(try (refine gate_guard (by rfl) ?_;dsimp only));refine box_event rfl (N:=4) rfl (cs:=#[.int .i64 a1_0,.int .i64 a1_1]) (t:=33) ?hr ?_;(case hr=>first|(go_simp;done)|(go_simp;rfl));intro gb260 hg w7 hbox hb;have n0_:=Aside0.mk (blk_below (g:=gb259) (o:=.cells #[.slice A0_0 l0_0.length c0_0] 31 (0,0)) (by (with_reducible repeat (first|refine blk_drewN ?_ _|refine blk_drew ?_|refine blk_alloc ?_ _));exact BK259.out) hb);have n1_:=Aside0.mk (below_step (by repeat (first|exact HB.out|apply below_alloc|apply pw_below_drewN|apply below_drew1|refine below_set ?_ GE259.out)) hb);have n2_:=Aside0.mk (hbox);have n3_:=Aside0.mk ((by rw [hg];exact (below_size (by repeat (first|exact HB.out|apply below_alloc|apply pw_below_drewN|apply below_drew1|refine below_set ?_ GE259.out))):w.heap.size≤gb260));have n4_:=Aside0.mk ((by rw [hg];exact (below_size (by repeat (first|exact HB.out|apply below_alloc|apply pw_below_drewN|apply below_drew1|refine below_set ?_ GE259.out))):w.heap.size≤gb260));have n5_:=Aside0.mk ((by rw [hg];exact Nat.ne_of_lt (blk_lt (g:=gb259) (o:=.cells #[.slice A0_0 l0_0.length c0_0] 31 (0,0)) (by (with_reducible repeat (first|refine blk_drewN ?_ _|refine blk_drew ?_|refine blk_alloc ?_ _));exact BK259.out)):gb259≠gb260));have n6_:=Aside0.mk ((by rw [hg];exact Nat.ne_of_gt (blk_lt (g:=gb259) (o:=.cells #[.slice A0_0 l0_0.length c0_0] 31 (0,0)) (by (with_reducible repeat (first|refine blk_drewN ?_ _|refine blk_drew ?_|refine blk_alloc ?_ _));exact BK259.out)):gb260≠gb259));clear BK259;clear HB;have BK259:=n0_;have HB:=n1_;have BK260:=n2_;have GW260:=n3_;have GE260:=n4_;have NB259_260:=n5_;have NB260_259:=n6_;clear n0_ n1_ n2_ n3_ n4_ n5_ n6_;clear hb hbox hg)|((with_reducible refine gate_dst (N:=5) rfl ?_);(try (refine gate_guard (by rfl) ?_;dsimp only));refine box_event rfl (N:=5) rfl (cs:=#[.int .i64 a2_0,.int .i64 a2_1]) (t:=33) ?hr ?_;(case hr=>first|(go_simp;done)|(go_simp;rfl));intro gb261 hg w8 hbox hb;have n0_:=Aside0.mk (blk_below (g:=gb259) (o:=.cells #[.slice A0_0 l0_0.length c0_0] 31 (0,0)) (by (with_reducible repeat (first|refine blk_drewN ?_ _|refine blk_drew ?_|refine blk_alloc ?_ _));exact BK259.out) hb);have n1_:=Aside0.mk (blk_below (g:=gb260) (o:=.cells #[.int .i64 a1_0,.int .i64 a1_1] 33 (0,0)) (by (with_reducible repeat (first|refine blk_drewN ?_ _|refine blk_drew ?_|refine blk_alloc ?_ _));exact BK260.out) hb);have n2_:=Aside0.mk (below_step (by repeat (first|exact HB.out|apply below_alloc|apply pw_below_drewN|apply below_drew1|refine below_set ?_ GE259.out|refine below_set ?_ GE260.out)) hb);have n3_:=Aside0.mk (hbox);have n4_:=Aside0.mk ((by rw [hg];exact (below_size (by repeat (first|exact HB.out|apply below_alloc|apply pw_below_drewN|apply below_drew1|refine below_set ?_ GE259.out|refine below_set ?_ GE260.out))):w.heap.size≤gb261));have n5_:=Aside0.mk ((by rw [hg];exact (below_size (by repeat (first|exact HB.out|apply below_alloc|apply pw_below_drewN|apply below_drew1|refine below_set ?_ GE259.out|refine below_set ?_ GE260.out))):w.heap.size≤gb261));have n6_:=Aside0.mk ((by rw [hg];exact Nat.ne_of_lt (blk_lt (g:=gb259) (o:=.cells #[.slice A0_0 l0_0.length c0_0] 31 (0,0)) (by (with_reducible repeat (first|refine blk_drewN ?_ _|refine blk_drew ?_|refine blk_alloc ?_ _));exact BK259.out)):gb259≠gb261));have n7_:=Aside0.mk ((by rw [hg];exact Nat.ne_of_gt (blk_lt (g:=gb259) (o:=.cells #[.slice A0_0 l0_0.length c0_0] 31 (0,0)) (by (with_reducible repeat (first|refine blk_drewN ?_ _|refine blk_drew ?_|refine blk_alloc ?_ _));exact BK259.out)):gb261≠gb259));have n8_:=Aside0.mk ((by rw [hg];exact Nat.ne_of_lt (blk_lt (g:=gb260) (o:=.cells #[.int .i64 a1_0,.int .i64 a1_1] 33 (0,0)) (by (with_reducible repeat (first|refine blk_drewN ?_ _|refine blk_drew ?_|refine blk_alloc ?_ _));exact BK260.out)):gb260≠gb261));have n9_:=Aside0.mk ((by rw [hg];exact Nat.ne_of_gt (blk_lt (g:=gb260) (o:=.cells #[.int .i64 a1_0,.int .i64 a1_1] 33 (0,0)) (by (with_reducible repeat (first|refine blk_drewN ?_ _|refine blk_drew ?_|refine blk_alloc ?_ _));exact BK260.out)):gb261≠gb260));clear BK259;clear BK260;clear HB;have BK259:=n0_;have BK260:=n1_;have HB:=n2_;have BK261:=n3_;have GW261:=n4_;have GE261:=n5_;have NB259_261:=n6_;have NB261_259:=n7_;have NB260_261:=n8_;have NB261_260:=n9_;clear n0_ n1_ n2_ n3_ n4_ n5_ n6_ n7_ n8_ n9_;clear hb hbox hg;have hnb9:=NB259_260.out;have hnc9:=NB260_259.out;have hnb10:=NB259_261.out;have hnc10:=NB261_259.out;have hcz11_0:w8.cell? ⟨gb259,0,none⟩=some (.slice A0_0 l0_0.length c0_0):=(blk_cell BK259.out 0).trans rfl;have hfz11_0:=blk_frozen BK259.out 0;have hnb12:=NB260_261.out;have hnc12:=NB261_260.out;have hcz13_0:w8.cell? ⟨gb260,0,none⟩=some (.int .i64 a1_0):=(blk_cell BK260.out 0).trans rfl;have hcz13_1:w8.cell? ⟨gb260,1,none⟩=some (.int .i64 a1_1):=(blk_cell BK260.out 1).trans rfl;have hfz13_0:=blk_frozen BK260.out 0;have hfz13_1:=blk_frozen BK260.out 1)|(go_at_call 30;(with_reducible refine (spec_l5Path.calls k _ _ l0_0 a1_0 a1_1 t262 _ ?side1 ?side2 A4.out).mono ?_);(case side1=>repeat (first|exact (Kd.C_below HR0_0.out HB.out)|(with_reducible refine Kd.C_alloc ?_ _)|(with_reducible refine Kd.C_drewN ?_ _)|(with_reducible refine Kd.C_drew ?_)));(case side2=>exact HC0_0.out);rintro e w14 ⟨v263,rfl,ho0,hb⟩;have n0_:=Aside0.mk (Kd.R_lower ho0 (below_size (by repeat (first|exact HB.out|apply below_alloc|apply pw_below_drewN|apply below_drew1|refine below_set ?_ GE259.out|refine below_set ?_ GE260.out|refine below_set ?_ GE261.out))));have n1_:=Aside0.mk (blk_below (g:=gb259) (o:=.cells #[.slice A0_0 l0_0.length c0_0] 31 (0,0)) (by (with_reducible repeat (first|refine blk_drewN ?_ _|refine blk_drew ?_|refine blk_alloc ?_ _));exact BK259.out) hb);have n2_:=Aside0.mk (blk_below (g:=gb260) (o:=.cells #[.int .i64 a1_0,.int .i64 a1_1] 33 (0,0)) (by (with_reducible repeat (first|refine blk_drewN ?_ _|refine blk_drew ?_|refine blk_alloc ?_ _));exact BK260.out) hb);have n3_:=Aside0.mk (blk_below (g:=gb261) (o:=.cells #[.int .i64 a2_0,.int .i64 a2_1] 33 (0,0)) (by (with_reducible repeat (first|refine blk_drewN ?_ _|refine blk_drew ?_|refine blk_alloc ?_ _));exact BK261.out) hb);have n4_:=Aside0.mk (below_step (by repeat (first|exact HB.out|apply below_alloc|apply pw_below_drewN|apply below_drew1|refine below_set ?_ GE259.out|refine below_set ?_ GE260.out|refine below_set ?_ GE261.out)) hb);clear BK259;clear BK260;clear BK261;clear HB;have HO264:=n0_;have BK259:=n1_;have BK260:=n2_;have BK261:=n3_;have HB:=n4_;clear n0_ n1_ n2_ n3_ n4_;(try clear hb);(try clear hb2);(try clear hk);(try clear hi);(try clear ho0);have hcz15_0:w14.cell? ⟨gb259,0,none⟩=some (.slice A0_0 l0_0.length c0_0):=(blk_cell BK259.out 0).trans rfl;have hfz15_0:=blk_frozen BK259.out 0;have hcz16_0:w14.cell? ⟨gb261,0,none⟩=some (.int .i64 a2_0):=(blk_cell BK261.out 0).trans rfl;have hcz16_1:w14.cell? ⟨gb261,1,none⟩=some (.int .i64 a2_1):=(blk_cell BK261.out 1).trans rfl;have hfz16_0:=blk_frozen BK261.out 0;have hfz16_1:=blk_frozen BK261.out 1)|(go_at_call 30;(with_reducible refine (spec_l5Path.calls k _ _ l0_0 a2_0 a2_1 t265 _ ?side1 ?side2 A5.out).mono ?_);(case side1=>repeat (first|exact (Kd.C_below HR0_0.out HB.out)|(with_reducible refine Kd.C_alloc ?_ _)|(with_reducible refine Kd.C_drewN ?_ _)|(with_reducible refine Kd.C_drew ?_)));(case side2=>exact HC0_0.out);rintro e w17 ⟨v266,rfl,ho0,hb⟩;have n0_:=Aside0.mk (Kd.R_elder' (by (with_reducible repeat (first|apply Kd.R_alloc|apply Kd.R_drewN|apply Kd.R_drew));exact HO264.out) (Kd.R_base ho0) hb);have n1_:=Aside0.mk (Kd.R_lower (Kd.R_new' ho0 (Kd.R_lt (by (with_reducible repeat (first|apply Kd.R_alloc|apply Kd.R_drewN|apply Kd.R_drew));exact HO264.out))) (below_size (by repeat (first|exact HB.out|apply below_alloc|apply pw_below_drewN|apply below_drew1|refine below_set ?_ GE259.out|refine below_set ?_ GE260.out|refine below_set ?_ GE261.out))));have n2_:=Aside0.mk (blk_below (g:=gb259) (o:=.cells #[.slice A0_0 l0_0.length c0_0] 31 (0,0)) (by (with_reducible repeat (first|refine blk_drewN ?_ _|refine blk_drew ?_|refine blk_alloc ?_ _));exact BK259.out) hb);have n3_:=Aside0.mk (blk_below (g:=gb260) (o:=.cells #[.int .i64 a1_0,.int .i64 a1_1] 33 (0,0)) (by (with_reducible repeat (first|refine blk_drewN ?_ _|refine blk_drew ?_|refine blk_alloc ?_ _));exact BK260.out) hb);have n4_:=Aside0.mk (blk_below (g:=gb261) (o:=.cells #[.int .i64 a2_0,.int .i64 a2_1] 33 (0,0)) (by (with_reducible repeat (first|refine blk_drewN ?_ _|refine blk_drew ?_|refine blk_alloc ?_ _));exact BK261.out) hb);have n5_:=Aside0.mk (below_step (by repeat (first|exact HB.out|apply below_alloc|apply pw_below_drewN|apply below_drew1|refine below_set ?_ GE259.out|refine below_set ?_ GE260.out|refine below_set ?_ GE261.out)) hb);clear HO264;clear BK259;clear BK260;clear BK261;clear HB;have HO264:=n0_;have HO267:=n1_;have BK259:=n2_;have BK260:=n3_;have BK261:=n4_;have HB:=n5_;clear n0_ n1_ n2_ n3_ n4_ n5_;(try clear hb);(try clear hb2);(try clear hk);(try clear hi);(try clear ho0)));try go_wp2_with (first|((with_reducible refine gate_dst (N:=3) rfl ?_);(try (refine gate_guard (by rfl) ?_;dsimp only));refine box_event rfl (N:=3) rfl (cs:=#[.slice A0_0 l0_0.length c0_0]) (t:=31) ?hr ?_;(case hr=>first|(go_simp;done)|(go_simp;rfl));intro gb259 hg w6 hbox hb;have n0_:=Aside0.mk (below_step (by repeat (first|exact HB.out|apply below_alloc|apply pw_below_drewN|apply below_drew1)) hb);have n1_:=Aside0.mk (hbox);have n2_:=Aside0.mk ((by rw [hg];exact (below_size (by repeat (first|exact HB.out|apply below_alloc|apply pw_below_drewN|apply below_drew1))):w.heap.size≤gb259));have n3_:=Aside0.mk ((by rw [hg];exact (below_size (by repeat (first|exact HB.out|apply below_alloc|apply pw_below_drewN|apply below_drew1))):w.heap.size≤gb259));clear HB;have HB:=n0_;have BK259:=n1_;have GW259:=n2_;have GE259:=n3_;clear n0_ n1_ n2_ n3_;clear hb hbox hg)|((with_reducible refine gate_dst (N:=4) rfl ?_);(try (refine gate_guard (by rfl) ?_;dsimp only));refine box_event rfl (N:=4) rfl (cs:=#[.int .i64 a1_0,.int .i64 a1_1]) (t:=33) ?hr ?_;(case hr=>first|(go_simp;done)|(go_simp;rfl));intro gb260 hg w7 hbox hb;have n0_:=Aside0.mk (blk_below (g:=gb259) (o:=.cells #[.slice A0_0 l0_0.length c0_0] 31 (0,0)) (by (with_reducible repeat (first|refine blk_drewN ?_ _|refine blk_drew ?_|refine blk_alloc ?_ _));exact BK259.out) hb);have n1_:=Aside0.mk (below_step (by repeat (first|exact HB.out|apply below_alloc|apply pw_below_drewN|apply below_drew1|refine below_set ?_ GE259.out)) hb);have n2_:=Aside0.mk (hbox);have n3_:=Aside0.mk ((by rw [hg];exact (below_size (by repeat (first|exact HB.out|apply below_alloc|apply pw_below_drewN|apply below_drew1|refine below_set ?_ GE259.out))):w.heap.size≤gb260));have n4_:=Aside0.mk ((by rw [hg];exact (below_size (by repeat (first|exact HB.out|apply below_alloc|apply pw_below_drewN|apply below_drew1|refine below_set ?_ GE259.out))):w.heap.size≤gb260));have n5_:=Aside0.mk ((by rw [hg];exact Nat.ne_of_lt (blk_lt (g:=gb259) (o:=.cells #[.slice A0_0 l0_0.length c0_0] 31 (0,0)) (by (with_reducible repeat (first|refine blk_drewN ?_ _|refine blk_drew ?_|refine blk_alloc ?_ _));exact BK259.out)):gb259≠gb260));have n6_:=Aside0.mk ((by rw [hg];exact Nat.ne_of_gt (blk_lt (g:=gb259) (o:=.cells #[.slice A0_0 l0_0.length c0_0] 31 (0,0)) (by (with_reducible repeat (first|refine blk_drewN ?_ _|refine blk_drew ?_|refine blk_alloc ?_ _));exact BK259.out)):gb260≠gb259));clear BK259;clear HB;have BK259:=n0_;have HB:=n1_;have BK260:=n2_;have GW260:=n3_;have GE260:=n4_;have NB259_260:=n5_;have NB260_259:=n6_;clear n0_ n1_ n2_ n3_ n4_ n5_ n6_;clear hb hbox hg)|((with_reducible refine gate_dst (N:=5) rfl ?_);(try (refine gate_guard (by rfl) ?_;dsimp only));refine box_event rfl (N:=5) rfl (cs:=#[.int .i64 a2_0,.int .i64 a2_1]) (t:=33) ?hr ?_;(case hr=>first|(go_simp;done)|(go_simp;rfl));intro gb261 hg w8 hbox hb;have n0_:=Aside0.mk (blk_below (g:=gb259) (o:=.cells #[.slice A0_0 l0_0.length c0_0] 31 (0,0)) (by (with_reducible repeat (first|refine blk_drewN ?_ _|refine blk_drew ?_|refine blk_alloc ?_ _));exact BK259.out) hb);have n1_:=Aside0.mk (blk_below (g:=gb260) (o:=.cells #[.int .i64 a1_0,.int .i64 a1_1] 33 (0,0)) (by (with_reducible repeat (first|refine blk_drewN ?_ _|refine blk_drew ?_|refine blk_alloc ?_ _));exact BK260.out) hb);have n2_:=Aside0.mk (below_step (by repeat (first|exact HB.out|apply below_alloc|apply pw_below_drewN|apply below_drew1|refine below_set ?_ GE259.out|refine below_set ?_ GE260.out)) hb);have n3_:=Aside0.mk (hbox);have n4_:=Aside0.mk ((by rw [hg];exact (below_size (by repeat (first|exact HB.out|apply below_alloc|apply pw_below_drewN|apply below_drew1|refine below_set ?_ GE259.out|refine below_set ?_ GE260.out))):w.heap.size≤gb261));have n5_:=Aside0.mk ((by rw [hg];exact (below_size (by repeat (first|exact HB.out|apply below_alloc|apply pw_below_drewN|apply below_drew1|refine below_set ?_ GE259.out|refine below_set ?_ GE260.out))):w.heap.size≤gb261));have n6_:=Aside0.mk ((by rw [hg];exact Nat.ne_of_lt (blk_lt (g:=gb259) (o:=.cells #[.slice A0_0 l0_0.length c0_0] 31 (0,0)) (by (with_reducible repeat (first|refine blk_drewN ?_ _|refine blk_drew ?_|refine blk_alloc ?_ _));exact BK259.out)):gb259≠gb261));have n7_:=Aside0.mk ((by rw [hg];exact Nat.ne_of_gt (blk_lt (g:=gb259) (o:=.cells #[.slice A0_0 l0_0.length c0_0] 31 (0,0)) (by (with_reducible repeat (first|refine blk_drewN ?_ _|refine blk_drew ?_|refine blk_alloc ?_ _));exact BK259.out)):gb261≠gb259));have n8_:=Aside0.mk ((by rw [hg];exact Nat.ne_of_lt (blk_lt (g:=gb260) (o:=.cells #[.int .i64 a1_0,.int .i64 a1_1] 33 (0,0)) (by (with_reducible repeat (first|refine blk_drewN ?_ _|refine blk_drew ?_|refine blk_alloc ?_ _));exact BK260.out)):gb260≠gb261));have n9_:=Aside0.mk ((by rw [hg];exact Nat.ne_of_gt (blk_lt (g:=gb260) (o:=.cells #[.int .i64 a1_0,.int .i64 a1_1] 33 (0,0)) (by (with_reducible repeat (first|refine blk_drewN ?_ _|refine blk_drew ?_|refine blk_alloc ?_ _));exact BK260.out)):gb261≠gb260));clear BK259;clear BK260;clear HB;have BK259:=n0_;have BK260:=n1_;have HB:=n2_;have BK261:=n3_;have GW261:=n4_;have GE261:=n5_;have NB259_261:=n6_;have NB261_259:=n7_;have NB260_261:=n8_;have NB261_260:=n9_;clear n0_ n1_ n2_ n3_ n4_ n5_ n6_ n7_ n8_ n9_;clear hb hbox hg;have hnb9:=NB259_260.out;have hnc9:=NB260_259.out;have hnb10:=NB259_261.out;have hnc10:=NB261_259.out;have hcz11_0:w8.cell? ⟨gb259,0,none⟩=some (.slice A0_0 l0_0.length c0_0):=(blk_cell BK259.out 0).trans rfl;have hfz11_0:=blk_frozen BK259.out 0;have hnb12:=NB260_261.out;have hnc12:=NB261_260.out;have hcz13_0:w8.cell? ⟨gb260,0,none⟩=some (.int .i64 a1_0):=(blk_cell BK260.out 0).trans rfl;have hcz13_1:w8.cell? ⟨gb260,1,none⟩=some (.int .i64 a1_1):=(blk_cell BK260.out 1).trans rfl;have hfz13_0:=blk_frozen BK260.out 0;have hfz13_1:=blk_frozen BK260.out 1)|(go_at_call 30;(with_reducible refine (spec_l5Path.calls k _ _ l0_0 a1_0 a1_1 t262 _ ?side1 ?side2 A4.out).mono ?_);(case side1=>repeat (first|exact (Kd.C_below HR0_0.out HB.out)|(with_reducible refine Kd.C_alloc ?_ _)|(with_reducible refine Kd.C_drewN ?_ _)|(with_reducible refine Kd.C_drew ?_)));(case side2=>exact HC0_0.out);rintro e w14 ⟨v263,rfl,ho0,hb⟩;have n0_:=Aside0.mk (Kd.R_lower ho0 (below_size (by repeat (first|exact HB.out|apply below_alloc|apply pw_below_drewN|apply below_drew1|refine below_set ?_ GE259.out|refine below_set ?_ GE260.out|refine below_set ?_ GE261.out))));have n1_:=Aside0.mk (blk_below (g:=gb259) (o:=.cells #[.slice A0_0 l0_0.length c0_0] 31 (0,0)) (by (with_reducible repeat (first|refine blk_drewN ?_ _|refine blk_drew ?_|refine blk_alloc ?_ _));exact BK259.out) hb);have n2_:=Aside0.mk (blk_below (g:=gb260) (o:=.cells #[.int .i64 a1_0,.int .i64 a1_1] 33 (0,0)) (by (with_reducible repeat (first|refine blk_drewN ?_ _|refine blk_drew ?_|refine blk_alloc ?_ _));exact BK260.out) hb);have n3_:=Aside0.mk (blk_below (g:=gb261) (o:=.cells #[.int .i64 a2_0,.int .i64 a2_1] 33 (0,0)) (by (with_reducible repeat (first|refine blk_drewN ?_ _|refine blk_drew ?_|refine blk_alloc ?_ _));exact BK261.out) hb);have n4_:=Aside0.mk (below_step (by repeat (first|exact HB.out|apply below_alloc|apply pw_below_drewN|apply below_drew1|refine below_set ?_ GE259.out|refine below_set ?_ GE260.out|refine below_set ?_ GE261.out)) hb);clear BK259;clear BK260;clear BK261;clear HB;have HO264:=n0_;have BK259:=n1_;have BK260:=n2_;have BK261:=n3_;have HB:=n4_;clear n0_ n1_ n2_ n3_ n4_;(try clear hb);(try clear hb2);(try clear hk);(try clear hi);(try clear ho0);have hcz15_0:w14.cell? ⟨gb259,0,none⟩=some (.slice A0_0 l0_0.length c0_0):=(blk_cell BK259.out 0).trans rfl;have hfz15_0:=blk_frozen BK259.out 0;have hcz16_0:w14.cell? ⟨gb261,0,none⟩=some (.int .i64 a2_0):=(blk_cell BK261.out 0).trans rfl;have hcz16_1:w14.cell? ⟨gb261,1,none⟩=some (.int .i64 a2_1):=(blk_cell BK261.out 1).trans rfl;have hfz16_0:=blk_frozen BK261.out 0;have hfz16_1:=blk_frozen BK261.out 1)|(go_at_call 30;(with_reducible refine (spec_l5Path.calls k _ _ l0_0 a2_0 a2_1 t265 _ ?side1 ?side2 A5.out).mono ?_);(case side1=>repeat (first|exact (Kd.C_below HR0_0.out HB.out)|(with_reducible refine Kd.C_alloc ?_ _)|(with_reducible refine Kd.C_drewN ?_ _)|(with_reducible refine Kd.C_drew ?_)));(case side2=>exact HC0_0.out);rintro e w17 ⟨v266,rfl,ho0,hb⟩;have n0_:=Aside0.mk (Kd.R_elder' (by (with_reducible repeat (first|apply Kd.R_alloc|apply Kd.R_drewN|apply Kd.R_drew));exact HO264.out) (Kd.R_base ho0) hb);have n1_:=Aside0.mk (Kd.R_lower (Kd.R_new' ho0 (Kd.R_lt (by (with_reducible repeat (first|apply Kd.R_alloc|apply Kd.R_drewN|apply Kd.R_drew));exact HO264.out))) (below_size (by repeat (first|exact HB.out|apply below_alloc|apply pw_below_drewN|apply below_drew1|refine below_set ?_ GE259.out|refine below_set ?_ GE260.out|refine below_set ?_ GE261.out))));have n2_:=Aside0.mk (blk_below (g:=gb259) (o:=.cells #[.slice A0_0 l0_0.length c0_0] 31 (0,0)) (by (with_reducible repeat (first|refine blk_drewN ?_ _|refine blk_drew ?_|refine blk_alloc ?_ _));exact BK259.out) hb);have n3_:=Aside0.mk (blk_below (g:=gb260) (o:=.cells #[.int .i64 a1_0,.int .i64 a1_1] 33 (0,0)) (by (with_reducible repeat (first|refine blk_drewN ?_ _|refine blk_drew ?_|refine blk_alloc ?_ _));exact BK260.out) hb);have n4_:=Aside0.mk (blk_below (g:=gb261) (o:=.cells #[.int .i64 a2_0,.int .i64 a2_1] 33 (0,0)) (by (with_reducible repeat (first|refine blk_drewN ?_ _|refine blk_drew ?_|refine blk_alloc ?_ _));exact BK261.out) hb);have n5_:=Aside0.mk (below_step (by repeat (first|exact HB.out|apply below_alloc|apply pw_below_drewN|apply below_drew1|refine below_set ?_ GE259.out|refine below_set ?_ GE260.out|refine below_set ?_ GE261.out)) hb);clear HO264;clear BK259;clear BK260;clear BK261;clear HB;have HO264:=n0_;have HO267:=n1_;have BK259:=n2_;have BK260:=n3_;have BK261:=n4_;have HB:=n5_;clear n0_ n1_ n2_ n3_ n4_ n5_;(try clear hb);(try clear hb2);(try clear hk);(try clear hi);(try clear ho0))))
 go_loopg [9] k (fun kq v9 w'=>∃ (x9_1:Int),v9=.int .i64 x9_1∧Aside0 (spec_l5Less.l0 kq t262 t265 x9_1=some r)∧Aside0 (kq≤k)∧Aside0 (Kd.R (Kd.int .i64) 3 w' w.heap.size (fun k_=>some k_≠(v266:Value).ownBlock) v263 t262)∧Aside0 (Kd.R (Kd.int .i64) 3 w' w.heap.size (fun k_=>some k_≠(v263:Value).ownBlock) v266 t265)∧Aside0 (w'.heap[gb259]?=some (.cells #[(.slice A0_0 l0_0.length c0_0)] 31 (0,0)))∧Aside0 (w'.heap[gb260]?=some (.cells #[.int .i64 a1_0,.int .i64 a1_1] 33 (0,0)))∧Aside0 (w'.heap[gb261]?=some (.cells #[.int .i64 a2_0,.int .i64 a2_1] 33 (0,0)))∧Aside0 (Below w.heap.size w w'))
 case atStart=>exact ⟨(0),(by first|rfl|(simp;done)|(simp [*];done)),H',⟨Nat.le_refl _⟩,⟨by (with_reducible repeat (first|apply Kd.R_alloc|apply Kd.R_drewN|apply Kd.R_drew));exact Kd.R_mono HO264.out (fun _ hk=>hk.2)⟩,⟨by (with_reducible repeat (first|apply Kd.R_alloc|apply Kd.R_drewN|apply Kd.R_drew));exact Kd.R_mono HO267.out (fun _ hk=>hk.2)⟩,⟨by (with_reducible repeat (first|refine blk_drewN ?_ _|refine blk_drew ?_|refine blk_alloc ?_ _));exact BK259.out⟩,⟨by (with_reducible repeat (first|refine blk_drewN ?_ _|refine blk_drew ?_|refine blk_alloc ?_ _));exact BK260.out⟩,⟨by (with_reducible repeat (first|refine blk_drewN ?_ _|refine blk_drew ?_|refine blk_alloc ?_ _));exact BK261.out⟩,⟨by repeat (first|exact HB.out|apply below_alloc|apply pw_below_drewN|apply below_drew1|refine below_set ?_ GE259.out|refine below_set ?_ GE260.out|refine below_set ?_ GE261.out)⟩⟩
 case round=>
  clear H'
  try clear hcz11_0;try clear hcz13_0;try clear hcz13_1;try clear hcz15_0;try clear hcz16_0;try clear hcz16_1;try clear hfz11_0;try clear hfz13_0;try clear hfz13_1;try clear hfz15_0;try clear hfz16_0;try clear hfz16_1
  obtain ⟨x9_1,rfl,HA,HK1,HO_7,HO_8,BK259,BK260,BK261,HB⟩:=hrel
  cases gk with
 |zero=>exact absurd HA.out (by simp [spec_l5Less.l0])
 |succ k1=>
   have H:=HA.out
   clear HA
   simp only [spec_l5Less.l0] at H
   have HC18:=Aside0.mk H
   clear H
   go_upto_region 4 with (fail)
   repeat (go_quiet (fail);go_upto_region 4 with (fail))
   go_cut [27] (fun v27 wc=>∃ (kq:Nat) (x27_17:Bool),v27=.bool x27_17∧Aside0 (spec_l5Less.j1 kq t262 t265 x9_1 x27_17=some r)∧Aside0 (kq≤k1)∧Aside0 (Kd.R (Kd.int .i64) 3 wc w.heap.size (fun k_=>some k_≠(v266:Value).ownBlock) v263 t262)∧Aside0 (Kd.R (Kd.int .i64) 3 wc w.heap.size (fun k_=>some k_≠(v263:Value).ownBlock) v266 t265)∧Aside0 (wc.heap[gb259]?=some (.cells #[(.slice A0_0 l0_0.length c0_0)] 31 (0,0)))∧Aside0 (wc.heap[gb260]?=some (.cells #[.int .i64 a1_0,.int .i64 a1_1] 33 (0,0)))∧Aside0 (wc.heap[gb261]?=some (.cells #[.int .i64 a2_0,.int .i64 a2_1] 33 (0,0)))∧Aside0 (Below w.heap.size w wc))
   case first=>
    have H:=HC18.out
    clear HC18
    by_cases c19:x9_1<(t262.length:Int)
    ·rw [if_pos c19] at H
     have c19b0:decide (x9_1<(t262.length:Int))=true:=decide_eq_true c19
     clear c19
     (first|rw [c19b0]|(simp only [i64_w,i32_w];rw [c19b0])|rw [c19b1]|skip)
     have H':=Aside0.mk H
     clear H
     obtain ⟨Ao20,co20,eo20⟩:=Kd.R_slice HO_7.out
     subst eo20
     obtain ⟨Ao21,co21,eo21⟩:=Kd.R_slice HO_8.out
     subst eo21
     go_wp2
     repeat (go_quiet (fail);try go_wp2)
     go_meet
     case rel=>exact ⟨_,(decide (x9_1<(t265.length:Int))),(by first|rfl|(simp;done)|(simp [*];done)),H',⟨by have:=HK1.out;first|omega|exact Nat.le_refl _⟩,⟨by (with_reducible repeat (first|apply Kd.R_alloc|apply Kd.R_drewN|apply Kd.R_drew));exact HO_7.out⟩,⟨by (with_reducible repeat (first|apply Kd.R_alloc|apply Kd.R_drewN|apply Kd.R_drew));exact HO_8.out⟩,⟨by (with_reducible repeat (first|refine blk_drewN ?_ _|refine blk_drew ?_|refine blk_alloc ?_ _));exact BK259.out⟩,⟨by (with_reducible repeat (first|refine blk_drewN ?_ _|refine blk_drew ?_|refine blk_alloc ?_ _));exact BK260.out⟩,⟨by (with_reducible repeat (first|refine blk_drewN ?_ _|refine blk_drew ?_|refine blk_alloc ?_ _));exact BK261.out⟩,⟨by repeat (first|exact HB.out|apply below_alloc|apply pw_below_drewN|apply below_drew1|refine below_set ?_ GE259.out|refine below_set ?_ GE260.out|refine below_set ?_ GE261.out)⟩⟩
    ·rw [if_neg c19] at H
     have c19b0:decide (x9_1<(t262.length:Int))=false:=decide_eq_false c19
     clear c19
     (first|rw [c19b0]|(simp only [i64_w,i32_w];rw [c19b0])|rw [c19b1]|skip)
     have H':=Aside0.mk H
     clear H
     obtain ⟨Ao22,co22,eo22⟩:=Kd.R_slice HO_7.out
     subst eo22
     go_wp2
     repeat (go_quiet (fail);try go_wp2)
     go_meet
     case rel=>exact ⟨_,(false),(by first|rfl|(simp;done)|(simp [*];done)),H',⟨by have:=HK1.out;first|omega|exact Nat.le_refl _⟩,⟨by (with_reducible repeat (first|apply Kd.R_alloc|apply Kd.R_drewN|apply Kd.R_drew));exact HO_7.out⟩,⟨by (with_reducible repeat (first|apply Kd.R_alloc|apply Kd.R_drewN|apply Kd.R_drew));exact HO_8.out⟩,⟨by (with_reducible repeat (first|refine blk_drewN ?_ _|refine blk_drew ?_|refine blk_alloc ?_ _));exact BK259.out⟩,⟨by (with_reducible repeat (first|refine blk_drewN ?_ _|refine blk_drew ?_|refine blk_alloc ?_ _));exact BK260.out⟩,⟨by (with_reducible repeat (first|refine blk_drewN ?_ _|refine blk_drew ?_|refine blk_alloc ?_ _));exact BK261.out⟩,⟨by repeat (first|exact HB.out|apply below_alloc|apply pw_below_drewN|apply below_drew1|refine below_set ?_ GE259.out|refine below_set ?_ GE260.out|refine below_set ?_ GE261.out)⟩⟩
   case rest=>
    clear HC18
    try clear c19;try clear c19b0
    obtain ⟨kq,x27_17,rfl,HA,HJ17,HO_7,HO_8,BK259,BK260,BK261,HB⟩:=hcut
    cases kq with
   |zero=>exact absurd HA.out (by simp [spec_l5Less.j1])
   |succ kj17=>
     have H:=HA.out
     clear HA
     simp only [spec_l5Less.j1] at H
     by_cases c23:x27_17=true
     ·subst c23
      have H1:=H
      rw [if_pos rfl] at H1
      clear H
      have H:=H1
      clear H1
      have HC24:=Aside0.mk H
      clear H
      obtain ⟨Ao25,co25,eo25⟩:=Kd.R_slice HO_7.out
      subst eo25
      obtain ⟨Ao26,co26,eo26⟩:=Kd.R_slice HO_8.out
      subst eo26
      go_upto_region 8 with (fail)
      repeat (go_quiet (fail);go_upto_region 8 with (fail))
      generalize hbX_:(x9_1==(wrap64 ((t262.length:Int) - 1)))=bX_
      have HbX_:=Aside0.mk hbX_
      clear hbX_
      go_cut [43] (fun v43 wc=>∃ (kq:Nat) (x43_23:Bool),v43=.bool x43_23∧Aside0 (spec_l5Less.j2 kq t262 t265 x9_1 (x9_1==(wrap64 ((t262.length:Int) - 1))) (x9_1==(wrap64 ((t265.length:Int) - 1))) x43_23=some r)∧Aside0 (kq≤kj17)∧Aside0 (Kd.R (Kd.int .i64) 3 wc w.heap.size (fun k_=>some k_≠((.slice Ao26 t265.length co26):Value).ownBlock) (.slice Ao25 t262.length co25) t262)∧Aside0 (Kd.R (Kd.int .i64) 3 wc w.heap.size (fun k_=>some k_≠((.slice Ao25 t262.length co25):Value).ownBlock) (.slice Ao26 t265.length co26) t265)∧Aside0 (wc.heap[gb259]?=some (.cells #[(.slice A0_0 l0_0.length c0_0)] 31 (0,0)))∧Aside0 (wc.heap[gb260]?=some (.cells #[.int .i64 a1_0,.int .i64 a1_1] 33 (0,0)))∧Aside0 (wc.heap[gb261]?=some (.cells #[.int .i64 a2_0,.int .i64 a2_1] 33 (0,0)))∧Aside0 (Below w.heap.size w wc))
      case first=>
       have H:=HC24.out
       clear HC24
       by_cases c27:x9_1=(wrap64 ((t262.length:Int) - 1))
       ·rw [if_pos c27] at H
        have c27b0:(x9_1==(wrap64 ((t262.length:Int) - 1)))=true:=beq_iff_eq.mpr c27
        have c27b1:(x9_1 != (wrap64 ((t262.length:Int) - 1)))=false:=bne_eq_false_iff_eq.mpr c27
        clear c27
        have eb_:=HbX_.out.symm.trans c27b0;subst eb_
        have H':=Aside0.mk H
        clear H
        go_wp2
        repeat (go_quiet (fail);try go_wp2)
        go_meet
        case rel=>exact ⟨_,((x9_1==(wrap64 ((t265.length:Int) - 1)))),(by first|rfl|(simp;done)|(simp [*];done)),H',⟨by have:=HK1.out;have:=HJ17.out;first|omega|exact Nat.le_refl _⟩,⟨by (with_reducible repeat (first|apply Kd.R_alloc|apply Kd.R_drewN|apply Kd.R_drew));exact HO_7.out⟩,⟨by (with_reducible repeat (first|apply Kd.R_alloc|apply Kd.R_drewN|apply Kd.R_drew));exact HO_8.out⟩,⟨by (with_reducible repeat (first|refine blk_drewN ?_ _|refine blk_drew ?_|refine blk_alloc ?_ _));exact BK259.out⟩,⟨by (with_reducible repeat (first|refine blk_drewN ?_ _|refine blk_drew ?_|refine blk_alloc ?_ _));exact BK260.out⟩,⟨by (with_reducible repeat (first|refine blk_drewN ?_ _|refine blk_drew ?_|refine blk_alloc ?_ _));exact BK261.out⟩,⟨by repeat (first|exact HB.out|apply below_alloc|apply pw_below_drewN|apply below_drew1|refine below_set ?_ GE259.out|refine below_set ?_ GE260.out|refine below_set ?_ GE261.out)⟩⟩
       ·rw [if_neg c27] at H
        have c27b0:(x9_1==(wrap64 ((t262.length:Int) - 1)))=false:=beq_eq_false_iff_ne.mpr c27
        have c27b1:(x9_1 != (wrap64 ((t262.length:Int) - 1)))=true:=bne_iff_ne.mpr c27
        have eb_:=HbX_.out.symm.trans c27b0;subst eb_
        have H':=Aside0.mk H
        clear H
        go_wp2
        repeat (go_quiet (fail);try go_wp2)
        go_meet
        case rel=>exact ⟨_,(false),(by first|rfl|(simp;done)|(simp [*];done)),H',⟨by have:=HK1.out;have:=HJ17.out;first|omega|exact Nat.le_refl _⟩,⟨by (with_reducible repeat (first|apply Kd.R_alloc|apply Kd.R_drewN|apply Kd.R_drew));exact HO_7.out⟩,⟨by (with_reducible repeat (first|apply Kd.R_alloc|apply Kd.R_drewN|apply Kd.R_drew));exact HO_8.out⟩,⟨by (with_reducible repeat (first|refine blk_drewN ?_ _|refine blk_drew ?_|refine blk_alloc ?_ _));exact BK259.out⟩,⟨by (with_reducible repeat (first|refine blk_drewN ?_ _|refine blk_drew ?_|refine blk_alloc ?_ _));exact BK260.out⟩,⟨by (with_reducible repeat (first|refine blk_drewN ?_ _|refine blk_drew ?_|refine blk_alloc ?_ _));exact BK261.out⟩,⟨by repeat (first|exact HB.out|apply below_alloc|apply pw_below_drewN|apply below_drew1|refine below_set ?_ GE259.out|refine below_set ?_ GE260.out|refine below_set ?_ GE261.out)⟩⟩
      case rest=>
       clear HC24
       try clear c23;try clear c27;try clear c27b0;try clear c27b1
       obtain ⟨kq,x43_23,rfl,HA,HJ23,HO_7,HO_8,BK259,BK260,BK261,HB⟩:=hcut
       have eb_:=HbX_.out;clear HbX_;subst eb_
       cases kq with
      |zero=>exact absurd HA.out (by simp [spec_l5Less.j2])
      |succ kj23=>
        have H:=HA.out
        clear HA
        simp only [spec_l5Less.j2] at H
        by_cases c28:x43_23=true
        ·subst c28
         have H1:=H
         rw [if_pos rfl] at H1
         clear H
         have H:=H1
         clear H1
         by_cases c29:0≤x9_1
         ·rw [if_pos c29] at H
          have c29b0:decide (0≤x9_1)=true:=decide_eq_true c29
          clear c29
          by_cases c30:x9_1<(t262.length:Int)
          ·rw [if_pos c30] at H
           have c30b0:decide (x9_1<(t262.length:Int))=true:=decide_eq_true c30
           clear c30
           by_cases c31:x9_1<(t265.length:Int)
           ·rw [if_pos c31] at H
            have c31b0:decide (x9_1<(t265.length:Int))=true:=decide_eq_true c31
            clear c31
            obtain rfl:=Option.some.inj H
            have p268:0≤(x9_1:Int):=of_decide_eq_true (by first|(with_reducible assumption)|assumption)
            have q268:x9_1<(t262.length:Int):=of_decide_eq_true (by first|(with_reducible assumption)|assumption)
            obtain ⟨ad268,e268,hx268_0⟩:=Kd.at_int (Kd.R_reads' HO_7.out).2.2 x9_1 p268 q268
            cases e268
            replace p268:=eq_true p268
            replace q268:=eq_true q268
            have p269:0≤(x9_1:Int):=of_decide_eq_true (by first|(with_reducible assumption)|assumption)
            have q269:x9_1<(t265.length:Int):=of_decide_eq_true (by first|(with_reducible assumption)|assumption)
            obtain ⟨ad269,e269,hx269_0⟩:=Kd.at_int (Kd.R_reads' HO_8.out).2.2 x9_1 p269 q269
            cases e269
            replace p269:=eq_true p269
            replace q269:=eq_true q269
            go_wp2
            repeat (go_quiet (fail);try go_wp2)
            go_ret
            exact ⟨by first|rfl|(simp [errW_none,errW_some]<;>rfl)|(simp [*,errW_none,errW_some]<;>rfl),by repeat (first|exact HB.out|apply below_alloc|apply pw_below_drewN|apply below_drew1|refine below_set ?_ GE259.out|refine below_set ?_ GE260.out|refine below_set ?_ GE261.out)⟩
           ·rw [if_neg c31] at H
            exact absurd H (by simp)
          ·rw [if_neg c30] at H
           exact absurd H (by simp)
         ·rw [if_neg c29] at H
          exact absurd H (by simp)
        ·replace c28:=Bool.eq_false_iff.mpr c28
         subst c28
         have H1:=H
         rw [if_neg (show ¬ (false=true) by decide)] at H1
         clear H
         have H:=H1
         clear H1
         by_cases c32:(x9_1==(wrap64 ((t262.length:Int) - 1)))=true
         ·rw [if_pos c32] at H
          have c32b0:(x9_1==(wrap64 ((t262.length:Int) - 1)))=true:=c32
          (try (have c32b1:decide (x9_1=(wrap64 ((t262.length:Int) - 1)))=true:=by simpa using c32))
          (try (have c32b2:(x9_1==(wrap64 ((t262.length:Int) - 1)))=true:=by simpa using c32))
          clear c32
          by_cases c33:0≤x9_1
          ·rw [if_pos c33] at H
           have c33b0:decide (0≤x9_1)=true:=decide_eq_true c33
           clear c33
           by_cases c34:x9_1<(t262.length:Int)
           ·rw [if_pos c34] at H
            have c34b0:decide (x9_1<(t262.length:Int))=true:=decide_eq_true c34
            clear c34
            by_cases c35:x9_1<(t265.length:Int)
            ·rw [if_pos c35] at H
             have c35b0:decide (x9_1<(t265.length:Int))=true:=decide_eq_true c35
             clear c35
             obtain rfl:=Option.some.inj H
             have p270:0≤(x9_1:Int):=of_decide_eq_true (by first|(with_reducible assumption)|assumption)
             have q270:x9_1<(t262.length:Int):=of_decide_eq_true (by first|(with_reducible assumption)|assumption)
             obtain ⟨ad270,e270,hx270_0⟩:=Kd.at_int (Kd.R_reads' HO_7.out).2.2 x9_1 p270 q270
             cases e270
             replace p270:=eq_true p270
             replace q270:=eq_true q270
             have p271:0≤(x9_1:Int):=of_decide_eq_true (by first|(with_reducible assumption)|assumption)
             have q271:x9_1<(t265.length:Int):=of_decide_eq_true (by first|(with_reducible assumption)|assumption)
             obtain ⟨ad271,e271,hx271_0⟩:=Kd.at_int (Kd.R_reads' HO_8.out).2.2 x9_1 p271 q271
             cases e271
             replace p271:=eq_true p271
             replace q271:=eq_true q271
             go_wp2
             repeat (go_quiet (fail);try go_wp2)
             go_ret
             exact ⟨by first|rfl|(simp [errW_none,errW_some]<;>rfl)|(simp [*,errW_none,errW_some]<;>rfl),by repeat (first|exact HB.out|apply below_alloc|apply pw_below_drewN|apply below_drew1|refine below_set ?_ GE259.out|refine below_set ?_ GE260.out|refine below_set ?_ GE261.out)⟩
            ·rw [if_neg c35] at H
             exact absurd H (by simp)
           ·rw [if_neg c34] at H
            exact absurd H (by simp)
          ·rw [if_neg c33] at H
           exact absurd H (by simp)
         ·rw [if_neg c32] at H
          have c32b0:(x9_1==(wrap64 ((t262.length:Int) - 1)))=false:=by simpa using c32
          (try (have c32b1:decide (x9_1=(wrap64 ((t262.length:Int) - 1)))=false:=by simpa using c32))
          (try (have c32b2:(x9_1==(wrap64 ((t262.length:Int) - 1)))=false:=by simpa using c32))
          (try (have c32b3:¬ (x9_1=(wrap64 ((t262.length:Int) - 1))):=by simpa using c32))
          clear c32
          by_cases c36:0≤x9_1
          ·rw [if_pos c36] at H
           have c36b0:decide (0≤x9_1)=true:=decide_eq_true c36
           clear c36
           by_cases c37:x9_1<(t262.length:Int)
           ·rw [if_pos c37] at H
            have c37b0:decide (x9_1<(t262.length:Int))=true:=decide_eq_true c37
            clear c37
            by_cases c38:x9_1<(t265.length:Int)
            ·rw [if_pos c38] at H
             have c38b0:decide (x9_1<(t265.length:Int))=true:=decide_eq_true c38
             clear c38
             by_cases c39:(rd t262 x9_1)=(rd t265 x9_1)
             ·rw [if_pos c39] at H
              have c39b0:((rd t262 x9_1)==(rd t265 x9_1))=true:=beq_iff_eq.mpr c39
              have c39b1:((rd t262 x9_1) != (rd t265 x9_1))=false:=bne_eq_false_iff_eq.mpr c39
              clear c39
              by_cases c40:(x9_1==(wrap64 ((t265.length:Int) - 1)))=true
              ·rw [if_pos c40] at H
               have c40b0:(x9_1==(wrap64 ((t265.length:Int) - 1)))=true:=c40
               (try (have c40b1:decide (x9_1=(wrap64 ((t265.length:Int) - 1)))=true:=by simpa using c40))
               (try (have c40b2:(x9_1==(wrap64 ((t265.length:Int) - 1)))=true:=by simpa using c40))
               clear c40
               obtain rfl:=Option.some.inj H
               have p272:0≤(x9_1:Int):=of_decide_eq_true (by first|(with_reducible assumption)|assumption)
               have q272:x9_1<(t262.length:Int):=of_decide_eq_true (by first|(with_reducible assumption)|assumption)
               obtain ⟨ad272,e272,hx272_0⟩:=Kd.at_int (Kd.R_reads' HO_7.out).2.2 x9_1 p272 q272
               cases e272
               replace p272:=eq_true p272
               replace q272:=eq_true q272
               have p273:0≤(x9_1:Int):=of_decide_eq_true (by first|(with_reducible assumption)|assumption)
               have q273:x9_1<(t265.length:Int):=of_decide_eq_true (by first|(with_reducible assumption)|assumption)
               obtain ⟨ad273,e273,hx273_0⟩:=Kd.at_int (Kd.R_reads' HO_8.out).2.2 x9_1 p273 q273
               cases e273
               replace p273:=eq_true p273
               replace q273:=eq_true q273
               go_wp2
               repeat (go_quiet (fail);try go_wp2)
               go_ret
               exact ⟨by first|rfl|(simp [errW_none,errW_some]<;>rfl)|(simp [*,errW_none,errW_some]<;>rfl),by repeat (first|exact HB.out|apply below_alloc|apply pw_below_drewN|apply below_drew1|refine below_set ?_ GE259.out|refine below_set ?_ GE260.out|refine below_set ?_ GE261.out)⟩
              ·rw [if_neg c40] at H
               have c40b0:(x9_1==(wrap64 ((t265.length:Int) - 1)))=false:=by simpa using c40
               (try (have c40b1:decide (x9_1=(wrap64 ((t265.length:Int) - 1)))=false:=by simpa using c40))
               (try (have c40b2:(x9_1==(wrap64 ((t265.length:Int) - 1)))=false:=by simpa using c40))
               (try (have c40b3:¬ (x9_1=(wrap64 ((t265.length:Int) - 1))):=by simpa using c40))
               clear c40
               have H':=Aside0.mk H
               clear H
               have p272:0≤(x9_1:Int):=of_decide_eq_true (by first|(with_reducible assumption)|assumption)
               have q272:x9_1<(t262.length:Int):=of_decide_eq_true (by first|(with_reducible assumption)|assumption)
               obtain ⟨ad272,e272,hx272_0⟩:=Kd.at_int (Kd.R_reads' HO_7.out).2.2 x9_1 p272 q272
               cases e272
               replace p272:=eq_true p272
               replace q272:=eq_true q272
               have p273:0≤(x9_1:Int):=of_decide_eq_true (by first|(with_reducible assumption)|assumption)
               have q273:x9_1<(t265.length:Int):=of_decide_eq_true (by first|(with_reducible assumption)|assumption)
               obtain ⟨ad273,e273,hx273_0⟩:=Kd.at_int (Kd.R_reads' HO_8.out).2.2 x9_1 p273 q273
               cases e273
               replace p273:=eq_true p273
               replace q273:=eq_true q273
               go_wp2
               repeat (go_quiet (fail);try go_wp2)
               go_roundg kj23
               case measure=>have:=HK1.out;have:=HJ17.out;have:=HJ23.out;omega
               case rel=>exact ⟨(wrap64 (x9_1+1)),(by first|rfl|(simp;done)|(simp [*];done)),H',⟨by have:=HK1.out;have:=HJ17.out;have:=HJ23.out;omega⟩,⟨by (with_reducible repeat (first|apply Kd.R_alloc|apply Kd.R_drewN|apply Kd.R_drew));exact HO_7.out⟩,⟨by (with_reducible repeat (first|apply Kd.R_alloc|apply Kd.R_drewN|apply Kd.R_drew));exact HO_8.out⟩,⟨by (with_reducible repeat (first|refine blk_drewN ?_ _|refine blk_drew ?_|refine blk_alloc ?_ _));exact BK259.out⟩,⟨by (with_reducible repeat (first|refine blk_drewN ?_ _|refine blk_drew ?_|refine blk_alloc ?_ _));exact BK260.out⟩,⟨by (with_reducible repeat (first|refine blk_drewN ?_ _|refine blk_drew ?_|refine blk_alloc ?_ _));exact BK261.out⟩,⟨by repeat (first|exact HB.out|apply below_alloc|apply pw_below_drewN|apply below_drew1|refine below_set ?_ GE259.out|refine below_set ?_ GE260.out|refine below_set ?_ GE261.out)⟩⟩
             ·rw [if_neg c39] at H
              have c39b0:((rd t262 x9_1)==(rd t265 x9_1))=false:=beq_eq_false_iff_ne.mpr c39
              have c39b1:((rd t262 x9_1) != (rd t265 x9_1))=true:=bne_iff_ne.mpr c39
              obtain rfl:=Option.some.inj H
              have p272:0≤(x9_1:Int):=of_decide_eq_true (by first|(with_reducible assumption)|assumption)
              have q272:x9_1<(t262.length:Int):=of_decide_eq_true (by first|(with_reducible assumption)|assumption)
              obtain ⟨ad272,e272,hx272_0⟩:=Kd.at_int (Kd.R_reads' HO_7.out).2.2 x9_1 p272 q272
              cases e272
              replace p272:=eq_true p272
              replace q272:=eq_true q272
              have p273:0≤(x9_1:Int):=of_decide_eq_true (by first|(with_reducible assumption)|assumption)
              have q273:x9_1<(t265.length:Int):=of_decide_eq_true (by first|(with_reducible assumption)|assumption)
              obtain ⟨ad273,e273,hx273_0⟩:=Kd.at_int (Kd.R_reads' HO_8.out).2.2 x9_1 p273 q273
              cases e273
              replace p273:=eq_true p273
              replace q273:=eq_true q273
              have p274:0≤(x9_1:Int):=of_decide_eq_true (by first|(with_reducible assumption)|assumption)
              have q274:x9_1<(t262.length:Int):=of_decide_eq_true (by first|(with_reducible assumption)|assumption)
              obtain ⟨ad274,e274,hx274_0⟩:=Kd.at_int (Kd.R_reads' HO_7.out).2.2 x9_1 p274 q274
              obtain rfl:ad272=ad274:=(by injection e274)
              replace p274:=eq_true p274
              replace q274:=eq_true q274
              have p275:0≤(x9_1:Int):=of_decide_eq_true (by first|(with_reducible assumption)|assumption)
              have q275:x9_1<(t265.length:Int):=of_decide_eq_true (by first|(with_reducible assumption)|assumption)
              obtain ⟨ad275,e275,hx275_0⟩:=Kd.at_int (Kd.R_reads' HO_8.out).2.2 x9_1 p275 q275
              obtain rfl:ad273=ad275:=(by injection e275)
              replace p275:=eq_true p275
              replace q275:=eq_true q275
              go_wp2
              repeat (go_quiet (fail);try go_wp2)
              go_ret
              exact ⟨by first|rfl|(simp [errW_none,errW_some]<;>rfl)|(simp [*,errW_none,errW_some]<;>rfl),by repeat (first|exact HB.out|apply below_alloc|apply pw_below_drewN|apply below_drew1|refine below_set ?_ GE259.out|refine below_set ?_ GE260.out|refine below_set ?_ GE261.out)⟩
            ·rw [if_neg c38] at H
             exact absurd H (by simp)
           ·rw [if_neg c37] at H
            exact absurd H (by simp)
          ·rw [if_neg c36] at H
           exact absurd H (by simp)
     ·replace c23:=Bool.eq_false_iff.mpr c23
      subst c23
      have H1:=H
      rw [if_neg (show ¬ (false=true) by decide)] at H1
      clear H
      have H:=H1
      clear H1
      obtain rfl:=Option.some.inj H
      go_wp2
      repeat (go_quiet (fail);try go_wp2)
      go_ret
      exact ⟨by first|rfl|(simp [errW_none,errW_some]<;>rfl)|(simp [*,errW_none,errW_some]<;>rfl),by repeat (first|exact HB.out|apply below_alloc|apply pw_below_drewN|apply below_drew1|refine below_set ?_ GE259.out|refine below_set ?_ GE260.out|refine below_set ?_ GE261.out)⟩
end Go.Proofs.Ytbogfagafdokeaa.QFnExactRangeText
