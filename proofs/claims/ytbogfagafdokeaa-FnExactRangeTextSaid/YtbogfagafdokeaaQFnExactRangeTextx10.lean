import Derived.Test.YtbogfagafdokeaaQFnExactRangeTextx0
import Derived.Test.YtbogfagafdokeaaQFnExactRangeTextx9
namespace Go.Proofs.Ytbogfagafdokeaa.QFnExactRangeText
open Go.RowKit Go.Proofs.YtbogfagafdokeaaV.PrintWords Go.Proofs.YtbogfagafdokeaaV.PrintLast Go.Proofs.YtbogfagafdokeaaV.PrintMore
attribute [local go_sem] max2_int min2_int max_two min_two max_three min_three max_four min_four
set_option linter.unusedVariables false
set_option linter.unusedSimpArgs false
/-! ### spec_RangeText: function 11 -/
mutual
def spec_RangeText.l0:Nat→List Int→Int→Int→Int→Int→Int→List (S59)→Option (ByteArray)
  |0,_,_,_,_,_,_,_=>none
  |k+1,x5,x6,x7,x8,x9,x10,x288000=>if x10<(x288000.length:Int) then (spec_RangeText.j1 k x5 x6 x7 x8 x9 x10 (decide (x10≤x8)) x288000) else (spec_RangeText.j1 k x5 x6 x7 x8 x9 x10 false x288000)
def spec_RangeText.j1:Nat→List Int→Int→Int→Int→Int→Int→Bool→List (S59)→Option (ByteArray)
  |0,_,_,_,_,_,_,_,_=>none
  |k+1,x5,x6,x7,x8,x9,x10,x42,x288000=>if x42=true then (if 0≤x10 then (if x10<(x288000.length:Int) then (if ((rd_T59 x288000 x10).f1)=3 then (if x10=x8 then (spec_RangeText.j2 k x5 x6 x7 x8 x9 x10 (decide (x9<0)) x288000) else (spec_RangeText.j2 k x5 x6 x7 x8 x9 x10 false x288000)) else (spec_RangeText.j2 k x5 x6 x7 x8 x9 x10 true x288000)) else (none)) else (none)) else (some (strOfNums x5))
def spec_RangeText.j2:Nat→List Int→Int→Int→Int→Int→Int→Bool→List (S59)→Option (ByteArray)
  |0,_,_,_,_,_,_,_,_=>none
  |k+1,x5,x6,x7,x8,x9,x10,x60,x288000=>if x60=true then (spec_RangeText.l0 k x5 x6 x7 x8 x9 (wrap64 (x10+1)) x288000) else (if 0≤x10 then (if x10<(x288000.length:Int) then (if x10=x6 then (spec_RangeText.j3 k x5 x6 x7 x8 x9 x10 0 (((rd_T59 x288000 x10).f4).size:Int) (decide (x7≥0)) x288000) else (spec_RangeText.j3 k x5 x6 x7 x8 x9 x10 0 (((rd_T59 x288000 x10).f4).size:Int) false x288000)) else (none)) else (none))
def spec_RangeText.j3:Nat→List Int→Int→Int→Int→Int→Int→Int→Int→Bool→List (S59)→Option (ByteArray)
  |0,_,_,_,_,_,_,_,_,_,_=>none
  |k+1,x5,x6,x7,x8,x9,x10,x11,x12,x74,x288000=>if x74=true then (spec_RangeText.j4 k x5 x6 x7 x8 x9 x10 x7 x12 x288000) else (spec_RangeText.j4 k x5 x6 x7 x8 x9 x10 x11 x12 x288000)
def spec_RangeText.j4:Nat→List Int→Int→Int→Int→Int→Int→Int→Int→List (S59)→Option (ByteArray)
  |0,_,_,_,_,_,_,_,_,_=>none
  |k+1,x5,x6,x7,x8,x9,x10,x11,x12,x288000=>if x10=x8 then (if x11<x9 then (if 0≤x10 then (if x10<(x288000.length:Int) then (if 0≤x11 then (if x11≤x9 then (if x9≤(((rd_T59 x288000 x10).f4).size:Int) then (if x5.length+(((rd_T59 x288000 x10).f4).extract (x11:Int).toNat (x9:Int).toNat).size<140737488355328 then (spec_RangeText.l0 k (x5++bytesOf (((rd_T59 x288000 x10).f4).extract (x11:Int).toNat (x9:Int).toNat)) x6 x7 x8 x9 (wrap64 (x10+1)) x288000) else (none)) else (none)) else (none)) else (none)) else (none)) else (none)) else (spec_RangeText.l0 k x5 x6 x7 x8 x9 (wrap64 (x10+1)) x288000)) else (if x11<x12 then (if 0≤x10 then (if x10<(x288000.length:Int) then (if 0≤x11 then (if x11≤x12 then (if x12≤(((rd_T59 x288000 x10).f4).size:Int) then (if x5.length+(((rd_T59 x288000 x10).f4).extract (x11:Int).toNat (x12:Int).toNat).size<140737488355328 then (spec_RangeText.l0 k (x5++bytesOf (((rd_T59 x288000 x10).f4).extract (x11:Int).toNat (x12:Int).toNat)) x6 x7 x8 x9 (wrap64 (x10+1)) x288000) else (none)) else (none)) else (none)) else (none)) else (none)) else (none)) else (spec_RangeText.l0 k x5 x6 x7 x8 x9 (wrap64 (x10+1)) x288000))
end
def spec_RangeText.f (k:Nat) (l0_0:List (S59)) (a1_0:Int) (a1_1:Int) (a1_2:Int) (a1_3:Int):Option (ByteArray):=(spec_l5RangeOk.f k l0_0 a1_0 a1_1 a1_2 a1_3).bind fun t292=>(if t292=true then ((spec_l5Edge.f k l0_0 a1_0 a1_1).bind fun bt293=>((spec_l5Edge.f k l0_0 a1_2 a1_3).bind fun bt295=>(spec_RangeText.l0 k (([]:List Int)) bt293.1 bt293.2 bt295.1 bt295.2 bt293.1 l0_0))) else (some (⟨#[]⟩:ByteArray)))
theorem spec_RangeText.mono_l:∀ k,(∀ y0 y1 y2 y3 y4 y5 y6,LeO (spec_RangeText.l0 k y0 y1 y2 y3 y4 y5 y6) (spec_RangeText.l0 (k+1) y0 y1 y2 y3 y4 y5 y6))∧(∀ y0 y1 y2 y3 y4 y5 y6 y7,LeO (spec_RangeText.j1 k y0 y1 y2 y3 y4 y5 y6 y7) (spec_RangeText.j1 (k+1) y0 y1 y2 y3 y4 y5 y6 y7))∧(∀ y0 y1 y2 y3 y4 y5 y6 y7,LeO (spec_RangeText.j2 k y0 y1 y2 y3 y4 y5 y6 y7) (spec_RangeText.j2 (k+1) y0 y1 y2 y3 y4 y5 y6 y7))∧(∀ y0 y1 y2 y3 y4 y5 y6 y7 y8 y9,LeO (spec_RangeText.j3 k y0 y1 y2 y3 y4 y5 y6 y7 y8 y9) (spec_RangeText.j3 (k+1) y0 y1 y2 y3 y4 y5 y6 y7 y8 y9))∧(∀ y0 y1 y2 y3 y4 y5 y6 y7 y8,LeO (spec_RangeText.j4 k y0 y1 y2 y3 y4 y5 y6 y7 y8) (spec_RangeText.j4 (k+1) y0 y1 y2 y3 y4 y5 y6 y7 y8))
 |0=>⟨fun _ _ _ _ _ _ _ r h=>by simp [spec_RangeText.l0] at h,fun _ _ _ _ _ _ _ _ r h=>by simp [spec_RangeText.j1] at h,fun _ _ _ _ _ _ _ _ r h=>by simp [spec_RangeText.j2] at h,fun _ _ _ _ _ _ _ _ _ _ r h=>by simp [spec_RangeText.j3] at h,fun _ _ _ _ _ _ _ _ _ r h=>by simp [spec_RangeText.j4] at h⟩
 |k+1=>by
  obtain ⟨ih0,ih1,ih2,ih3,ih4⟩:=spec_RangeText.mono_l k
  refine ⟨?_,?_,?_,?_,?_⟩
  ·intro y0 y1 y2 y3 y4 y5 y6
   unfold spec_RangeText.l0
   repeat' first
  |(with_reducible exact ih0 _ _ _ _ _ _ _)
  |(with_reducible exact ih1 _ _ _ _ _ _ _ _)
  |(with_reducible exact ih2 _ _ _ _ _ _ _ _)
  |(with_reducible exact ih3 _ _ _ _ _ _ _ _ _ _)
  |(with_reducible exact ih4 _ _ _ _ _ _ _ _ _)
  |(with_reducible exact spec_l5Edge.mono _ _ _ _)
  |(with_reducible exact spec_l5RangeOk.mono _ _ _ _ _ _)
  |(with_reducible exact LeO.refl _)
  |(with_reducible exact LeO.none _)
  |(with_reducible refine LeO.ite ?_ ?_)
  |(with_reducible refine LeO.bind ?_ (fun _=>?_))
  |exact ih0 _ _ _ _ _ _ _
  |exact ih1 _ _ _ _ _ _ _ _
  |exact ih2 _ _ _ _ _ _ _ _
  |exact ih3 _ _ _ _ _ _ _ _ _ _
  |exact ih4 _ _ _ _ _ _ _ _ _
  |exact spec_l5Edge.mono _ _ _ _
  |exact spec_l5RangeOk.mono _ _ _ _ _ _
  |exact LeO.none _
  |refine LeO.ite ?_ ?_
  |refine LeO.bind ?_ (fun _=>?_)
  ·intro y0 y1 y2 y3 y4 y5 y6 y7
   unfold spec_RangeText.j1
   repeat' first
  |(with_reducible exact ih0 _ _ _ _ _ _ _)
  |(with_reducible exact ih1 _ _ _ _ _ _ _ _)
  |(with_reducible exact ih2 _ _ _ _ _ _ _ _)
  |(with_reducible exact ih3 _ _ _ _ _ _ _ _ _ _)
  |(with_reducible exact ih4 _ _ _ _ _ _ _ _ _)
  |(with_reducible exact spec_l5Edge.mono _ _ _ _)
  |(with_reducible exact spec_l5RangeOk.mono _ _ _ _ _ _)
  |(with_reducible exact LeO.refl _)
  |(with_reducible exact LeO.none _)
  |(with_reducible refine LeO.ite ?_ ?_)
  |(with_reducible refine LeO.bind ?_ (fun _=>?_))
  |exact ih0 _ _ _ _ _ _ _
  |exact ih1 _ _ _ _ _ _ _ _
  |exact ih2 _ _ _ _ _ _ _ _
  |exact ih3 _ _ _ _ _ _ _ _ _ _
  |exact ih4 _ _ _ _ _ _ _ _ _
  |exact spec_l5Edge.mono _ _ _ _
  |exact spec_l5RangeOk.mono _ _ _ _ _ _
  |exact LeO.none _
  |refine LeO.ite ?_ ?_
  |refine LeO.bind ?_ (fun _=>?_)
  ·intro y0 y1 y2 y3 y4 y5 y6 y7
   unfold spec_RangeText.j2
   repeat' first
  |(with_reducible exact ih0 _ _ _ _ _ _ _)
  |(with_reducible exact ih1 _ _ _ _ _ _ _ _)
  |(with_reducible exact ih2 _ _ _ _ _ _ _ _)
  |(with_reducible exact ih3 _ _ _ _ _ _ _ _ _ _)
  |(with_reducible exact ih4 _ _ _ _ _ _ _ _ _)
  |(with_reducible exact spec_l5Edge.mono _ _ _ _)
  |(with_reducible exact spec_l5RangeOk.mono _ _ _ _ _ _)
  |(with_reducible exact LeO.refl _)
  |(with_reducible exact LeO.none _)
  |(with_reducible refine LeO.ite ?_ ?_)
  |(with_reducible refine LeO.bind ?_ (fun _=>?_))
  |exact ih0 _ _ _ _ _ _ _
  |exact ih1 _ _ _ _ _ _ _ _
  |exact ih2 _ _ _ _ _ _ _ _
  |exact ih3 _ _ _ _ _ _ _ _ _ _
  |exact ih4 _ _ _ _ _ _ _ _ _
  |exact spec_l5Edge.mono _ _ _ _
  |exact spec_l5RangeOk.mono _ _ _ _ _ _
  |exact LeO.none _
  |refine LeO.ite ?_ ?_
  |refine LeO.bind ?_ (fun _=>?_)
  ·intro y0 y1 y2 y3 y4 y5 y6 y7 y8 y9
   unfold spec_RangeText.j3
   repeat' first
  |(with_reducible exact ih0 _ _ _ _ _ _ _)
  |(with_reducible exact ih1 _ _ _ _ _ _ _ _)
  |(with_reducible exact ih2 _ _ _ _ _ _ _ _)
  |(with_reducible exact ih3 _ _ _ _ _ _ _ _ _ _)
  |(with_reducible exact ih4 _ _ _ _ _ _ _ _ _)
  |(with_reducible exact spec_l5Edge.mono _ _ _ _)
  |(with_reducible exact spec_l5RangeOk.mono _ _ _ _ _ _)
  |(with_reducible exact LeO.refl _)
  |(with_reducible exact LeO.none _)
  |(with_reducible refine LeO.ite ?_ ?_)
  |(with_reducible refine LeO.bind ?_ (fun _=>?_))
  |exact ih0 _ _ _ _ _ _ _
  |exact ih1 _ _ _ _ _ _ _ _
  |exact ih2 _ _ _ _ _ _ _ _
  |exact ih3 _ _ _ _ _ _ _ _ _ _
  |exact ih4 _ _ _ _ _ _ _ _ _
  |exact spec_l5Edge.mono _ _ _ _
  |exact spec_l5RangeOk.mono _ _ _ _ _ _
  |exact LeO.none _
  |refine LeO.ite ?_ ?_
  |refine LeO.bind ?_ (fun _=>?_)
  ·intro y0 y1 y2 y3 y4 y5 y6 y7 y8
   unfold spec_RangeText.j4
   repeat' first
  |(with_reducible exact ih0 _ _ _ _ _ _ _)
  |(with_reducible exact ih1 _ _ _ _ _ _ _ _)
  |(with_reducible exact ih2 _ _ _ _ _ _ _ _)
  |(with_reducible exact ih3 _ _ _ _ _ _ _ _ _ _)
  |(with_reducible exact ih4 _ _ _ _ _ _ _ _ _)
  |(with_reducible exact spec_l5Edge.mono _ _ _ _)
  |(with_reducible exact spec_l5RangeOk.mono _ _ _ _ _ _)
  |(with_reducible exact LeO.refl _)
  |(with_reducible exact LeO.none _)
  |(with_reducible refine LeO.ite ?_ ?_)
  |(with_reducible refine LeO.bind ?_ (fun _=>?_))
  |exact ih0 _ _ _ _ _ _ _
  |exact ih1 _ _ _ _ _ _ _ _
  |exact ih2 _ _ _ _ _ _ _ _
  |exact ih3 _ _ _ _ _ _ _ _ _ _
  |exact ih4 _ _ _ _ _ _ _ _ _
  |exact spec_l5Edge.mono _ _ _ _
  |exact spec_l5RangeOk.mono _ _ _ _ _ _
  |exact LeO.none _
  |refine LeO.ite ?_ ?_
  |refine LeO.bind ?_ (fun _=>?_)
theorem spec_RangeText.mono:∀ a0 a1 a2 a3 a4 k,LeO (spec_RangeText.f k a0 a1 a2 a3 a4) (spec_RangeText.f (k+1) a0 a1 a2 a3 a4):=by
 intro a0 a1 a2 a3 a4 k
 obtain ⟨ih0,ih1,ih2,ih3,ih4⟩:=spec_RangeText.mono_l k
 unfold spec_RangeText.f
 repeat' first
  |(with_reducible exact ih0 _ _ _ _ _ _ _)
  |(with_reducible exact ih1 _ _ _ _ _ _ _ _)
  |(with_reducible exact ih2 _ _ _ _ _ _ _ _)
  |(with_reducible exact ih3 _ _ _ _ _ _ _ _ _ _)
  |(with_reducible exact ih4 _ _ _ _ _ _ _ _ _)
  |(with_reducible exact spec_l5Edge.mono _ _ _ _)
  |(with_reducible exact spec_l5RangeOk.mono _ _ _ _ _ _)
  |(with_reducible exact LeO.refl _)
  |(with_reducible exact LeO.none _)
  |(with_reducible refine LeO.ite ?_ ?_)
  |(with_reducible refine LeO.bind ?_ (fun _=>?_))
  |exact ih0 _ _ _ _ _ _ _
  |exact ih1 _ _ _ _ _ _ _ _
  |exact ih2 _ _ _ _ _ _ _ _
  |exact ih3 _ _ _ _ _ _ _ _ _ _
  |exact ih4 _ _ _ _ _ _ _ _ _
  |exact spec_l5Edge.mono _ _ _ _
  |exact spec_l5RangeOk.mono _ _ _ _ _ _
  |exact LeO.none _
  |refine LeO.ite ?_ ?_
  |refine LeO.bind ?_ (fun _=>?_)
set_option maxHeartbeats 8000000 in
set_option maxRecDepth 100000 in
theorem spec_RangeText.calls (k:Nat) (A0_0:Option Addr) (c0_0:Nat) (l0_0:List (S59)) (a1_0:Int) (a1_1:Int) (a1_2:Int) (a1_3:Int) (r:ByteArray) (w:World) (hr0_0:Kd.C k59 w A0_0 l0_0.length l0_0) (hc0_0:l0_0.length≤c0_0) (h:spec_RangeText.f k l0_0 a1_0 a1_1 a1_2 a1_3=some r) :
  Calls Try.prog 11 #[.agg #[.slice A0_0 l0_0.length c0_0],.agg #[.int .i64 a1_0,.int .i64 a1_1,.int .i64 a1_2,.int .i64 a1_3]] w fun e w'=>e=.returned (.string r)∧Below w.heap.size w w':=by
 have hu31:=Try.underlying31
 have hu41:=Try.underlying41
 have hu33:=Try.underlying33
 have HR0_0:=Aside0.mk hr0_0
 have HC0_0:=Aside0.mk hc0_0
 clear hr0_0 hc0_0
 have HB:=Aside0.mk (Below.refl w.heap.size w)
 have H:((spec_l5RangeOk.f k l0_0 a1_0 a1_1 a1_2 a1_3).bind fun t292=>(if t292=true then ((spec_l5Edge.f k l0_0 a1_0 a1_1).bind fun bt293=>((spec_l5Edge.f k l0_0 a1_2 a1_3).bind fun bt295=>(spec_RangeText.l0 k (([]:List Int)) bt293.1 bt293.2 bt295.1 bt295.2 bt293.1 l0_0))) else (some (⟨#[]⟩:ByteArray))))=some r:=h
 clear h
 obtain ⟨y289,hy289⟩:∃ y_:List Int,y_=(([]:List Int)):=⟨_,rfl⟩
 replace H:((spec_l5RangeOk.f k l0_0 a1_0 a1_1 a1_2 a1_3).bind fun t292=>(if t292=true then ((spec_l5Edge.f k l0_0 a1_0 a1_1).bind fun bt293=>((spec_l5Edge.f k l0_0 a1_2 a1_3).bind fun bt295=>(spec_RangeText.l0 k y289 bt293.1 bt293.2 bt295.1 bt295.2 bt293.1 l0_0))) else (some (⟨#[]⟩:ByteArray))))=some r:=by first|(rw [hy289];with_reducible exact H)|(have H2_:=(Option.bind_some _ _).symm.trans H;rw [hy289];with_reducible exact H2_)|(have H2_:=(Option.bind_some _ _).symm.trans H;with_reducible exact H2_)|with_reducible exact H|(rw [hy289];exact H)|exact H
 have Ny289:=Aside0.mk hy289
 clear hy289
 replace H:=Option.bind_eq_some_iff.mp H
 obtain ⟨t292,A30,H⟩:=H
 try dsimp only at H
 have A3:=Aside0.mk A30
 clear A30
 by_cases c4:t292=true
 ·subst c4
  have H1:=H
  rw [if_pos rfl] at H1
  clear H
  have H:=H1
  clear H1
  replace H:=Option.bind_eq_some_iff.mp H
  obtain ⟨⟨t293,t294⟩,A50,H⟩:=H
  try dsimp only at H
  have A5:=Aside0.mk A50
  clear A50
  replace H:=Option.bind_eq_some_iff.mp H
  obtain ⟨⟨t295,t296⟩,A60,H⟩:=H
  try dsimp only at H
  have A6:=Aside0.mk A60
  clear A60
  have H':=Aside0.mk H
  clear H
  go_enter Try.func11,Try.ntmps11
  go_wp2_with (first|((with_reducible refine gate_dst (N:=2) rfl ?_);refine box_event rfl (N:=2) rfl (cs:=#[.slice A0_0 l0_0.length c0_0]) (t:=31) ?hr ?_;(case hr=>first|(go_simp;done)|(go_simp;rfl));intro gb287 hg w7 hbox hb;have n0_:=Aside0.mk (below_step (by repeat (first|exact HB.out|apply below_alloc|apply pw_below_drewN|apply below_drew1)) hb);have n1_:=Aside0.mk (hbox);have n2_:=Aside0.mk ((by rw [hg];exact (below_size (by repeat (first|exact HB.out|apply below_alloc|apply pw_below_drewN|apply below_drew1))):w.heap.size≤gb287));have n3_:=Aside0.mk ((by rw [hg];exact (below_size (by repeat (first|exact HB.out|apply below_alloc|apply pw_below_drewN|apply below_drew1))):w.heap.size≤gb287));clear HB;have HB:=n0_;have BK287:=n1_;have GW287:=n2_;have GE287:=n3_;clear n0_ n1_ n2_ n3_;clear hb hbox hg)|((with_reducible refine gate_dst (N:=3) rfl ?_);refine box_event rfl (N:=3) rfl (cs:=#[.int .i64 a1_0,.int .i64 a1_1,.int .i64 a1_2,.int .i64 a1_3]) (t:=41) ?hr ?_;(case hr=>first|(go_simp;done)|(go_simp;rfl));intro gb288 hg w8 hbox hb;have n0_:=Aside0.mk (blk_below (g:=gb287) (o:=.cells #[.slice A0_0 l0_0.length c0_0] 31 (0,0)) (by (with_reducible repeat (first|refine blk_drewN ?_ _|refine blk_drew ?_|refine blk_alloc ?_ _));exact BK287.out) hb);have n1_:=Aside0.mk (below_step (by repeat (first|exact HB.out|apply below_alloc|apply pw_below_drewN|apply below_drew1|refine below_set ?_ GE287.out)) hb);have n2_:=Aside0.mk (hbox);have n3_:=Aside0.mk ((by rw [hg];exact (below_size (by repeat (first|exact HB.out|apply below_alloc|apply pw_below_drewN|apply below_drew1|refine below_set ?_ GE287.out))):w.heap.size≤gb288));have n4_:=Aside0.mk ((by rw [hg];exact (below_size (by repeat (first|exact HB.out|apply below_alloc|apply pw_below_drewN|apply below_drew1|refine below_set ?_ GE287.out))):w.heap.size≤gb288));have n5_:=Aside0.mk ((by rw [hg];exact Nat.ne_of_lt (blk_lt (g:=gb287) (o:=.cells #[.slice A0_0 l0_0.length c0_0] 31 (0,0)) (by (with_reducible repeat (first|refine blk_drewN ?_ _|refine blk_drew ?_|refine blk_alloc ?_ _));exact BK287.out)):gb287≠gb288));have n6_:=Aside0.mk ((by rw [hg];exact Nat.ne_of_gt (blk_lt (g:=gb287) (o:=.cells #[.slice A0_0 l0_0.length c0_0] 31 (0,0)) (by (with_reducible repeat (first|refine blk_drewN ?_ _|refine blk_drew ?_|refine blk_alloc ?_ _));exact BK287.out)):gb288≠gb287));clear BK287;clear HB;have BK287:=n0_;have HB:=n1_;have BK288:=n2_;have GW288:=n3_;have GE288:=n4_;have NB287_288:=n5_;have NB288_287:=n6_;clear n0_ n1_ n2_ n3_ n4_ n5_ n6_;clear hb hbox hg)|((with_reducible refine gate_dst (N:=13) rfl ?_);refine Kd.R_lit (Kd.int .u8) _ 5 ?hg (N:=13) ?hd (xs:=([]:List Int)) (inner:=[]) (ok:=fun _=>True) (okp:=fun _=>True) ?hr ?hp (fun _ hk=>hk) trivial (Below.refl _ _) (Nat.le_refl _) (by simp) ?_;(case hd=>rfl);(case hg=>rfl);(case hr=>first|(go_simp;done)|(go_simp;rfl));(case hp=>exact (Reps.none _ _));intro v290 w9 ho10 hb hg_ hnew_;clear hg_ hnew_;(first|rw [← Ny289.out] at ho10|(simp only [Int.reduceToNat] at ho10;rw [← Ny289.out] at ho10));have n0_:=Aside0.mk (Kd.R_lower ho10 (below_size (by repeat (first|exact HB.out|apply below_alloc|apply pw_below_drewN|apply below_drew1|refine below_set ?_ GE287.out|refine below_set ?_ GE288.out))));have n1_:=Aside0.mk (blk_below (g:=gb287) (o:=.cells #[.slice A0_0 l0_0.length c0_0] 31 (0,0)) (by (with_reducible repeat (first|refine blk_drewN ?_ _|refine blk_drew ?_|refine blk_alloc ?_ _));exact BK287.out) hb);have n2_:=Aside0.mk (blk_below (g:=gb288) (o:=.cells #[.int .i64 a1_0,.int .i64 a1_1,.int .i64 a1_2,.int .i64 a1_3] 41 (0,0)) (by (with_reducible repeat (first|refine blk_drewN ?_ _|refine blk_drew ?_|refine blk_alloc ?_ _));exact BK288.out) hb);have n3_:=Aside0.mk (below_step (by repeat (first|exact HB.out|apply below_alloc|apply pw_below_drewN|apply below_drew1|refine below_set ?_ GE287.out|refine below_set ?_ GE288.out)) hb);clear BK287;clear BK288;clear HB;have HO291:=n0_;have BK287:=n1_;have BK288:=n2_;have HB:=n3_;clear n0_ n1_ n2_ n3_;clear hb ho10;have hnb11:=NB287_288.out;have hnc11:=NB288_287.out;have hcz12_0:w9.cell? ⟨gb287,0,none⟩=some (.slice A0_0 l0_0.length c0_0):=(blk_cell BK287.out 0).trans rfl;have hfz12_0:=blk_frozen BK287.out 0;have hcz13_0:w9.cell? ⟨gb288,0,none⟩=some (.int .i64 a1_0):=(blk_cell BK288.out 0).trans rfl;have hcz13_1:w9.cell? ⟨gb288,1,none⟩=some (.int .i64 a1_1):=(blk_cell BK288.out 1).trans rfl;have hcz13_2:w9.cell? ⟨gb288,2,none⟩=some (.int .i64 a1_2):=(blk_cell BK288.out 2).trans rfl;have hcz13_3:w9.cell? ⟨gb288,3,none⟩=some (.int .i64 a1_3):=(blk_cell BK288.out 3).trans rfl;have hfz13_0:=blk_frozen BK288.out 0;have hfz13_1:=blk_frozen BK288.out 1;have hfz13_2:=blk_frozen BK288.out 2;have hfz13_3:=blk_frozen BK288.out 3)|((with_reducible refine gate_callee (f:=23) rfl ?_);refine goesL_ (some 16) rfl rfl Try.func23 (by kernel_rfl) rfl #[.agg #[.slice A0_0 l0_0.length c0_0],.agg #[.int .i64 a1_0,.int .i64 a1_1,.int .i64 a1_2,.int .i64 a1_3]] rfl (by (try simp only [List.map_toArray,List.map_cons,List.map_nil]);first|done|rfl|(simp only [List.length_drop,List.length_take];rfl)) ?_;(with_reducible refine (spec_l5RangeOk.calls k _ _ l0_0 a1_0 a1_1 a1_2 a1_3 true _ ?side1 ?side2 A3.out).mono ?_);(case side1=>repeat (first|exact (Kd.C_below HR0_0.out HB.out)|(with_reducible refine Kd.C_alloc ?_ _)|(with_reducible refine Kd.C_drewN ?_ _)|(with_reducible refine Kd.C_drew ?_)));(case side2=>exact HC0_0.out);rintro e w14 ⟨rfl,hb⟩;refine ⟨_,rfl,?_⟩;have n0_:=Aside0.mk (Kd.R_below (by (with_reducible repeat (first|apply Kd.R_alloc|apply Kd.R_drewN|apply Kd.R_drew));exact HO291.out) hb);have n1_:=Aside0.mk (blk_below (g:=gb287) (o:=.cells #[.slice A0_0 l0_0.length c0_0] 31 (0,0)) (by (with_reducible repeat (first|refine blk_drewN ?_ _|refine blk_drew ?_|refine blk_alloc ?_ _));exact BK287.out) hb);have n2_:=Aside0.mk (blk_below (g:=gb288) (o:=.cells #[.int .i64 a1_0,.int .i64 a1_1,.int .i64 a1_2,.int .i64 a1_3] 41 (0,0)) (by (with_reducible repeat (first|refine blk_drewN ?_ _|refine blk_drew ?_|refine blk_alloc ?_ _));exact BK288.out) hb);have n3_:=Aside0.mk (below_step (by repeat (first|exact HB.out|apply below_alloc|apply pw_below_drewN|apply below_drew1|refine below_set ?_ GE287.out|refine below_set ?_ GE288.out)) hb);clear HO291;clear BK287;clear BK288;clear HB;have HO291:=n0_;have BK287:=n1_;have BK288:=n2_;have HB:=n3_;clear n0_ n1_ n2_ n3_;(try clear hb);(try clear hb2);(try clear hk);(try clear hi);have hcz15_0:w14.cell? ⟨gb287,0,none⟩=some (.slice A0_0 l0_0.length c0_0):=(blk_cell BK287.out 0).trans rfl;have hfz15_0:=blk_frozen BK287.out 0;have hcz16_0:w14.cell? ⟨gb288,0,none⟩=some (.int .i64 a1_0):=(blk_cell BK288.out 0).trans rfl;have hcz16_1:w14.cell? ⟨gb288,1,none⟩=some (.int .i64 a1_1):=(blk_cell BK288.out 1).trans rfl;have hcz16_2:w14.cell? ⟨gb288,2,none⟩=some (.int .i64 a1_2):=(blk_cell BK288.out 2).trans rfl;have hcz16_3:w14.cell? ⟨gb288,3,none⟩=some (.int .i64 a1_3):=(blk_cell BK288.out 3).trans rfl;have hfz16_0:=blk_frozen BK288.out 0;have hfz16_1:=blk_frozen BK288.out 1;have hfz16_2:=blk_frozen BK288.out 2;have hfz16_3:=blk_frozen BK288.out 3)|((with_reducible refine gate_callee (f:=24) rfl ?_);refine goesL_ (some 22) rfl rfl Try.func24 (by kernel_rfl) rfl #[.agg #[.slice A0_0 l0_0.length c0_0],.agg #[.int .i64 a1_0,.int .i64 a1_1]] rfl (by (try simp only [List.map_toArray,List.map_cons,List.map_nil]);first|done|rfl|(simp only [List.length_drop,List.length_take];rfl)) ?_;(with_reducible refine (spec_l5Edge.calls k _ _ l0_0 a1_0 a1_1 t293 t294 _ ?side1 ?side2 A5.out).mono ?_);(case side1=>repeat (first|exact (Kd.C_below HR0_0.out HB.out)|(with_reducible refine Kd.C_alloc ?_ _)|(with_reducible refine Kd.C_drewN ?_ _)|(with_reducible refine Kd.C_drew ?_)));(case side2=>exact HC0_0.out);rintro e w17 ⟨rfl,hb⟩;refine ⟨_,rfl,?_⟩;have n0_:=Aside0.mk (Kd.R_below (by (with_reducible repeat (first|apply Kd.R_alloc|apply Kd.R_drewN|apply Kd.R_drew));exact HO291.out) hb);have n1_:=Aside0.mk (blk_below (g:=gb287) (o:=.cells #[.slice A0_0 l0_0.length c0_0] 31 (0,0)) (by (with_reducible repeat (first|refine blk_drewN ?_ _|refine blk_drew ?_|refine blk_alloc ?_ _));exact BK287.out) hb);have n2_:=Aside0.mk (blk_below (g:=gb288) (o:=.cells #[.int .i64 a1_0,.int .i64 a1_1,.int .i64 a1_2,.int .i64 a1_3] 41 (0,0)) (by (with_reducible repeat (first|refine blk_drewN ?_ _|refine blk_drew ?_|refine blk_alloc ?_ _));exact BK288.out) hb);have n3_:=Aside0.mk (below_step (by repeat (first|exact HB.out|apply below_alloc|apply pw_below_drewN|apply below_drew1|refine below_set ?_ GE287.out|refine below_set ?_ GE288.out)) hb);clear HO291;clear BK287;clear BK288;clear HB;have HO291:=n0_;have BK287:=n1_;have BK288:=n2_;have HB:=n3_;clear n0_ n1_ n2_ n3_;(try clear hb);(try clear hb2);(try clear hk);(try clear hi);have hcz18_0:w17.cell? ⟨gb287,0,none⟩=some (.slice A0_0 l0_0.length c0_0):=(blk_cell BK287.out 0).trans rfl;have hfz18_0:=blk_frozen BK287.out 0;have hcz19_0:w17.cell? ⟨gb288,0,none⟩=some (.int .i64 a1_0):=(blk_cell BK288.out 0).trans rfl;have hcz19_1:w17.cell? ⟨gb288,1,none⟩=some (.int .i64 a1_1):=(blk_cell BK288.out 1).trans rfl;have hcz19_2:w17.cell? ⟨gb288,2,none⟩=some (.int .i64 a1_2):=(blk_cell BK288.out 2).trans rfl;have hcz19_3:w17.cell? ⟨gb288,3,none⟩=some (.int .i64 a1_3):=(blk_cell BK288.out 3).trans rfl;have hfz19_0:=blk_frozen BK288.out 0;have hfz19_1:=blk_frozen BK288.out 1;have hfz19_2:=blk_frozen BK288.out 2;have hfz19_3:=blk_frozen BK288.out 3)|((with_reducible refine gate_callee (f:=24) rfl ?_);refine goesL_ (some 29) rfl rfl Try.func24 (by kernel_rfl) rfl #[.agg #[.slice A0_0 l0_0.length c0_0],.agg #[.int .i64 a1_2,.int .i64 a1_3]] rfl (by (try simp only [List.map_toArray,List.map_cons,List.map_nil]);first|done|rfl|(simp only [List.length_drop,List.length_take];rfl)) ?_;(with_reducible refine (spec_l5Edge.calls k _ _ l0_0 a1_2 a1_3 t295 t296 _ ?side1 ?side2 A6.out).mono ?_);(case side1=>repeat (first|exact (Kd.C_below HR0_0.out HB.out)|(with_reducible refine Kd.C_alloc ?_ _)|(with_reducible refine Kd.C_drewN ?_ _)|(with_reducible refine Kd.C_drew ?_)));(case side2=>exact HC0_0.out);rintro e w20 ⟨rfl,hb⟩;refine ⟨_,rfl,?_⟩;have n0_:=Aside0.mk (Kd.R_below (by (with_reducible repeat (first|apply Kd.R_alloc|apply Kd.R_drewN|apply Kd.R_drew));exact HO291.out) hb);have n1_:=Aside0.mk (blk_below (g:=gb287) (o:=.cells #[.slice A0_0 l0_0.length c0_0] 31 (0,0)) (by (with_reducible repeat (first|refine blk_drewN ?_ _|refine blk_drew ?_|refine blk_alloc ?_ _));exact BK287.out) hb);have n2_:=Aside0.mk (blk_below (g:=gb288) (o:=.cells #[.int .i64 a1_0,.int .i64 a1_1,.int .i64 a1_2,.int .i64 a1_3] 41 (0,0)) (by (with_reducible repeat (first|refine blk_drewN ?_ _|refine blk_drew ?_|refine blk_alloc ?_ _));exact BK288.out) hb);have n3_:=Aside0.mk (below_step (by repeat (first|exact HB.out|apply below_alloc|apply pw_below_drewN|apply below_drew1|refine below_set ?_ GE287.out|refine below_set ?_ GE288.out)) hb);clear HO291;clear BK287;clear BK288;clear HB;have HO291:=n0_;have BK287:=n1_;have BK288:=n2_;have HB:=n3_;clear n0_ n1_ n2_ n3_;(try clear hb);(try clear hb2);(try clear hk);(try clear hi)))
  go_loopg [5,10] k (fun kq v5 v10 w'=>∃ (x5_1:List Int) (x10_1:Int),v10=.int .i64 x10_1∧Aside0 (spec_RangeText.l0 kq x5_1 t293 t294 t295 t296 x10_1 l0_0=some r)∧Aside0 (kq≤k)∧Aside0 (Kd.R (Kd.int .u8) 5 w' w.heap.size (fun _=>True) v5 x5_1)∧Aside0 (w'.heap[gb287]?=some (.cells #[(.slice A0_0 l0_0.length c0_0)] 31 (0,0)))∧Aside0 (w'.heap[gb288]?=some (.cells #[.int .i64 a1_0,.int .i64 a1_1,.int .i64 a1_2,.int .i64 a1_3] 41 (0,0)))∧Aside0 (Below w.heap.size w w'))
  case atStart=>exact ⟨(y289),(t293),(by first|rfl|(simp;done)|(simp [*];done)),H',⟨Nat.le_refl _⟩,⟨by (with_reducible repeat (first|apply Kd.R_alloc|apply Kd.R_drewN|apply Kd.R_drew));exact HO291.out⟩,⟨by (with_reducible repeat (first|refine blk_drewN ?_ _|refine blk_drew ?_|refine blk_alloc ?_ _));exact BK287.out⟩,⟨by (with_reducible repeat (first|refine blk_drewN ?_ _|refine blk_drew ?_|refine blk_alloc ?_ _));exact BK288.out⟩,⟨by repeat (first|exact HB.out|apply below_alloc|apply pw_below_drewN|apply below_drew1|refine below_set ?_ GE287.out|refine below_set ?_ GE288.out)⟩⟩
  case round=>
   clear H'
   try clear c4;try clear hcz12_0;try clear hcz13_0;try clear hcz13_1;try clear hcz13_2;try clear hcz13_3;try clear hcz15_0;try clear hcz16_0;try clear hcz16_1;try clear hcz16_2;try clear hcz16_3;try clear hcz18_0;try clear hcz19_0;try clear hcz19_1;try clear hcz19_2;try clear hcz19_3;try clear hfz12_0;try clear hfz13_0;try clear hfz13_1;try clear hfz13_2;try clear hfz13_3;try clear hfz15_0;try clear hfz16_0;try clear hfz16_1;try clear hfz16_2;try clear hfz16_3;try clear hfz18_0;try clear hfz19_0;try clear hfz19_1;try clear hfz19_2;try clear hfz19_3
   obtain ⟨x5_1,x10_1,rfl,HA,HK1,HO_5,BK287,BK288,HB⟩:=hrel
   cases gk with
  |zero=>exact absurd HA.out (by simp [spec_RangeText.l0])
  |succ k1=>
    have H:=HA.out
    clear HA
    simp only [spec_RangeText.l0] at H
    have HC21:=Aside0.mk H
    clear H
    go_upto_region 7 with (fail)
    go_cut [42] (fun v42 wc=>∃ (kq:Nat) (x42_20:Bool),v42=.bool x42_20∧Aside0 (spec_RangeText.j1 kq x5_1 t293 t294 t295 t296 x10_1 x42_20 l0_0=some r)∧Aside0 (kq≤k1)∧Aside0 (Kd.R (Kd.int .u8) 5 wc w.heap.size (fun _=>True) u5 x5_1)∧Aside0 (wc.heap[gb287]?=some (.cells #[(.slice A0_0 l0_0.length c0_0)] 31 (0,0)))∧Aside0 (wc.heap[gb288]?=some (.cells #[.int .i64 a1_0,.int .i64 a1_1,.int .i64 a1_2,.int .i64 a1_3] 41 (0,0)))∧Aside0 (Below w.heap.size w wc))
    case first=>
     have H:=HC21.out
     clear HC21
     by_cases c22:x10_1<(l0_0.length:Int)
     ·rw [if_pos c22] at H
      have c22b0:decide (x10_1<(l0_0.length:Int))=true:=decide_eq_true c22
      clear c22
      (first|rw [c22b0]|(simp only [i64_w,i32_w];rw [c22b0])|rw [c22b1]|skip)
      have H':=Aside0.mk H
      clear H
      have hnb23:=NB287_288.out
      have hnc23:=NB288_287.out
      have hcz24_0:wr.cell? ⟨gb287,0,none⟩=some (.slice A0_0 l0_0.length c0_0):=(blk_cell BK287.out 0).trans rfl
      have hfz24_0:=blk_frozen BK287.out 0
      go_wp2
      go_meet
      case rel=>exact ⟨_,(decide (x10_1≤t295)),(by first|rfl|(simp;done)|(simp [*];done)),H',⟨by have:=HK1.out;first|omega|exact Nat.le_refl _⟩,⟨by (with_reducible repeat (first|apply Kd.R_alloc|apply Kd.R_drewN|apply Kd.R_drew));exact HO_5.out⟩,⟨by (with_reducible repeat (first|refine blk_drewN ?_ _|refine blk_drew ?_|refine blk_alloc ?_ _));exact BK287.out⟩,⟨by (with_reducible repeat (first|refine blk_drewN ?_ _|refine blk_drew ?_|refine blk_alloc ?_ _));exact BK288.out⟩,⟨by repeat (first|exact HB.out|apply below_alloc|apply pw_below_drewN|apply below_drew1|refine below_set ?_ GE287.out|refine below_set ?_ GE288.out)⟩⟩
     ·rw [if_neg c22] at H
      have c22b0:decide (x10_1<(l0_0.length:Int))=false:=decide_eq_false c22
      clear c22
      (first|rw [c22b0]|(simp only [i64_w,i32_w];rw [c22b0])|rw [c22b1]|skip)
      have H':=Aside0.mk H
      clear H
      have hnb25:=NB287_288.out
      have hnc25:=NB288_287.out
      have hcz26_0:wr.cell? ⟨gb287,0,none⟩=some (.slice A0_0 l0_0.length c0_0):=(blk_cell BK287.out 0).trans rfl
      have hfz26_0:=blk_frozen BK287.out 0
      go_wp2
      go_meet
      case rel=>exact ⟨_,(false),(by first|rfl|(simp;done)|(simp [*];done)),H',⟨by have:=HK1.out;first|omega|exact Nat.le_refl _⟩,⟨by (with_reducible repeat (first|apply Kd.R_alloc|apply Kd.R_drewN|apply Kd.R_drew));exact HO_5.out⟩,⟨by (with_reducible repeat (first|refine blk_drewN ?_ _|refine blk_drew ?_|refine blk_alloc ?_ _));exact BK287.out⟩,⟨by (with_reducible repeat (first|refine blk_drewN ?_ _|refine blk_drew ?_|refine blk_alloc ?_ _));exact BK288.out⟩,⟨by repeat (first|exact HB.out|apply below_alloc|apply pw_below_drewN|apply below_drew1|refine below_set ?_ GE287.out|refine below_set ?_ GE288.out)⟩⟩
    case rest=>
     clear HC21
     try clear c22;try clear c22b0;try clear hcz24_0;try clear hcz26_0;try clear hfz24_0;try clear hfz26_0
     obtain ⟨kq,x42_20,rfl,HA,HJ20,HO_5,BK287,BK288,HB⟩:=hcut
     cases kq with
    |zero=>exact absurd HA.out (by simp [spec_RangeText.j1])
    |succ kj20=>
      have H:=HA.out
      clear HA
      simp only [spec_RangeText.j1] at H
      by_cases c27:x42_20=true
      ·subst c27
       have H1:=H
       rw [if_pos rfl] at H1
       clear H
       have H:=H1
       clear H1
       have HC28:=Aside0.mk H
       clear H
       go_upto_region 9 with (fail)
       go_cut [60] (fun v60 wc=>∃ (kq:Nat) (x60_27:Bool),v60=.bool x60_27∧Aside0 (spec_RangeText.j2 kq x5_1 t293 t294 t295 t296 x10_1 x60_27 l0_0=some r)∧Aside0 (kq≤kj20)∧Aside0 (Kd.R (Kd.int .u8) 5 wc w.heap.size (fun _=>True) u5 x5_1)∧Aside0 (wc.heap[gb287]?=some (.cells #[(.slice A0_0 l0_0.length c0_0)] 31 (0,0)))∧Aside0 (wc.heap[gb288]?=some (.cells #[.int .i64 a1_0,.int .i64 a1_1,.int .i64 a1_2,.int .i64 a1_3] 41 (0,0)))∧Aside0 (Below w.heap.size w wc))
       case first=>
        have H:=HC28.out
        clear HC28
        by_cases c29:0≤x10_1
        ·rw [if_pos c29] at H
         have c29b0:decide (0≤x10_1)=true:=decide_eq_true c29
         clear c29
         (first|rw [c29b0]|(simp only [i64_w,i32_w];rw [c29b0])|rw [c29b1]|skip)
         by_cases c30:x10_1<(l0_0.length:Int)
         ·rw [if_pos c30] at H
          have c30b0:decide (x10_1<(l0_0.length:Int))=true:=decide_eq_true c30
          clear c30
          by_cases c31:((rd_T59 l0_0 x10_1).f1)=3
          ·rw [if_pos c31] at H
           have c31b0:(((rd_T59 l0_0 x10_1).f1)==3)=true:=beq_iff_eq.mpr c31
           have c31b1:(((rd_T59 l0_0 x10_1).f1) != 3)=false:=bne_eq_false_iff_eq.mpr c31
           clear c31
           by_cases c32:x10_1=t295
           ·rw [if_pos c32] at H
            have c32b0:(x10_1==t295)=true:=beq_iff_eq.mpr c32
            have c32b1:(x10_1 != t295)=false:=bne_eq_false_iff_eq.mpr c32
            clear c32
            have H':=Aside0.mk H
            clear H
            have hnb33:=NB287_288.out
            have hnc33:=NB288_287.out
            have hcz34_0:wc.cell? ⟨gb287,0,none⟩=some (.slice A0_0 l0_0.length c0_0):=(blk_cell BK287.out 0).trans rfl
            have hfz34_0:=blk_frozen BK287.out 0
            have p297:0≤(x10_1:Int):=of_decide_eq_true (by first|(with_reducible assumption)|assumption)
            have q297:x10_1<(l0_0.length:Int):=of_decide_eq_true (by first|(with_reducible assumption)|assumption)
            obtain ⟨ad297,A297_3,c297_3,e297,hx297_0,hx297_1,hx297_2,hx297_3,hx297_4,hx297_5,hl297_3,hi297_3⟩:=at_T59 HR0_0.out x10_1 p297 q297
            cases e297
            replace hx297_0:=pw_cell_below HB.out hx297_0
            replace hx297_1:=pw_cell_below HB.out hx297_1
            replace hx297_2:=pw_cell_below HB.out hx297_2
            replace hx297_3:=pw_cell_below HB.out hx297_3
            replace hx297_4:=pw_cell_below HB.out hx297_4
            replace hx297_5:=pw_cell_below HB.out hx297_5
            have HR297_3:=Aside0.mk hi297_3
            have HC297_3:=Aside0.mk hl297_3
            clear hi297_3 hl297_3
            replace p297:=eq_true p297
            replace q297:=eq_true q297
            go_wp2
            go_meet
            case rel=>exact ⟨_,(decide (t296<0)),(by first|rfl|(simp;done)|(simp [*];done)),H',⟨by have:=HK1.out;have:=HJ20.out;first|omega|exact Nat.le_refl _⟩,⟨by (with_reducible repeat (first|apply Kd.R_alloc|apply Kd.R_drewN|apply Kd.R_drew));exact HO_5.out⟩,⟨by (with_reducible repeat (first|refine blk_drewN ?_ _|refine blk_drew ?_|refine blk_alloc ?_ _));exact BK287.out⟩,⟨by (with_reducible repeat (first|refine blk_drewN ?_ _|refine blk_drew ?_|refine blk_alloc ?_ _));exact BK288.out⟩,⟨by repeat (first|exact HB.out|apply below_alloc|apply pw_below_drewN|apply below_drew1|refine below_set ?_ GE287.out|refine below_set ?_ GE288.out)⟩⟩
           ·rw [if_neg c32] at H
            have c32b0:(x10_1==t295)=false:=beq_eq_false_iff_ne.mpr c32
            have c32b1:(x10_1 != t295)=true:=bne_iff_ne.mpr c32
            have H':=Aside0.mk H
            clear H
            have hnb35:=NB287_288.out
            have hnc35:=NB288_287.out
            have hcz36_0:wc.cell? ⟨gb287,0,none⟩=some (.slice A0_0 l0_0.length c0_0):=(blk_cell BK287.out 0).trans rfl
            have hfz36_0:=blk_frozen BK287.out 0
            have p297:0≤(x10_1:Int):=of_decide_eq_true (by first|(with_reducible assumption)|assumption)
            have q297:x10_1<(l0_0.length:Int):=of_decide_eq_true (by first|(with_reducible assumption)|assumption)
            obtain ⟨ad297,A297_3,c297_3,e297,hx297_0,hx297_1,hx297_2,hx297_3,hx297_4,hx297_5,hl297_3,hi297_3⟩:=at_T59 HR0_0.out x10_1 p297 q297
            cases e297
            replace hx297_0:=pw_cell_below HB.out hx297_0
            replace hx297_1:=pw_cell_below HB.out hx297_1
            replace hx297_2:=pw_cell_below HB.out hx297_2
            replace hx297_3:=pw_cell_below HB.out hx297_3
            replace hx297_4:=pw_cell_below HB.out hx297_4
            replace hx297_5:=pw_cell_below HB.out hx297_5
            have HR297_3:=Aside0.mk hi297_3
            have HC297_3:=Aside0.mk hl297_3
            clear hi297_3 hl297_3
            replace p297:=eq_true p297
            replace q297:=eq_true q297
            go_wp2
            go_meet
            case rel=>exact ⟨_,(false),(by first|rfl|(simp;done)|(simp [*];done)),H',⟨by have:=HK1.out;have:=HJ20.out;first|omega|exact Nat.le_refl _⟩,⟨by (with_reducible repeat (first|apply Kd.R_alloc|apply Kd.R_drewN|apply Kd.R_drew));exact HO_5.out⟩,⟨by (with_reducible repeat (first|refine blk_drewN ?_ _|refine blk_drew ?_|refine blk_alloc ?_ _));exact BK287.out⟩,⟨by (with_reducible repeat (first|refine blk_drewN ?_ _|refine blk_drew ?_|refine blk_alloc ?_ _));exact BK288.out⟩,⟨by repeat (first|exact HB.out|apply below_alloc|apply pw_below_drewN|apply below_drew1|refine below_set ?_ GE287.out|refine below_set ?_ GE288.out)⟩⟩
          ·rw [if_neg c31] at H
           have c31b0:(((rd_T59 l0_0 x10_1).f1)==3)=false:=beq_eq_false_iff_ne.mpr c31
           have c31b1:(((rd_T59 l0_0 x10_1).f1) != 3)=true:=bne_iff_ne.mpr c31
           have H':=Aside0.mk H
           clear H
           have hnb37:=NB287_288.out
           have hnc37:=NB288_287.out
           have hcz38_0:wc.cell? ⟨gb287,0,none⟩=some (.slice A0_0 l0_0.length c0_0):=(blk_cell BK287.out 0).trans rfl
           have hfz38_0:=blk_frozen BK287.out 0
           have p297:0≤(x10_1:Int):=of_decide_eq_true (by first|(with_reducible assumption)|assumption)
           have q297:x10_1<(l0_0.length:Int):=of_decide_eq_true (by first|(with_reducible assumption)|assumption)
           obtain ⟨ad297,A297_3,c297_3,e297,hx297_0,hx297_1,hx297_2,hx297_3,hx297_4,hx297_5,hl297_3,hi297_3⟩:=at_T59 HR0_0.out x10_1 p297 q297
           cases e297
           replace hx297_0:=pw_cell_below HB.out hx297_0
           replace hx297_1:=pw_cell_below HB.out hx297_1
           replace hx297_2:=pw_cell_below HB.out hx297_2
           replace hx297_3:=pw_cell_below HB.out hx297_3
           replace hx297_4:=pw_cell_below HB.out hx297_4
           replace hx297_5:=pw_cell_below HB.out hx297_5
           have HR297_3:=Aside0.mk hi297_3
           have HC297_3:=Aside0.mk hl297_3
           clear hi297_3 hl297_3
           replace p297:=eq_true p297
           replace q297:=eq_true q297
           go_wp2
           go_meet
           case rel=>exact ⟨_,(true),(by first|rfl|(simp;done)|(simp [*];done)),H',⟨by have:=HK1.out;have:=HJ20.out;first|omega|exact Nat.le_refl _⟩,⟨by (with_reducible repeat (first|apply Kd.R_alloc|apply Kd.R_drewN|apply Kd.R_drew));exact HO_5.out⟩,⟨by (with_reducible repeat (first|refine blk_drewN ?_ _|refine blk_drew ?_|refine blk_alloc ?_ _));exact BK287.out⟩,⟨by (with_reducible repeat (first|refine blk_drewN ?_ _|refine blk_drew ?_|refine blk_alloc ?_ _));exact BK288.out⟩,⟨by repeat (first|exact HB.out|apply below_alloc|apply pw_below_drewN|apply below_drew1|refine below_set ?_ GE287.out|refine below_set ?_ GE288.out)⟩⟩
         ·rw [if_neg c30] at H
          exact absurd H (by simp)
        ·rw [if_neg c29] at H
         exact absurd H (by simp)
       case rest=>
        clear HC28
        try clear c27;try clear c29;try clear c29b0;try clear c30;try clear c30b0;try clear c31;try clear c31b0;try clear c31b1;try clear c32;try clear c32b0;try clear c32b1;try clear hcz34_0;try clear hcz36_0;try clear hcz38_0;try clear hfz34_0;try clear hfz36_0;try clear hfz38_0;try clear hx297_0;try clear hx297_1;try clear hx297_2;try clear hx297_3;try clear hx297_4;try clear hx297_5;try clear p297;try clear q297
        obtain ⟨kq,x60_27,rfl,HA,HJ27,HO_5,BK287,BK288,HB⟩:=hcut
        cases kq with
       |zero=>exact absurd HA.out (by simp [spec_RangeText.j2])
       |succ kj27=>
         have H:=HA.out
         clear HA
         simp only [spec_RangeText.j2] at H
         by_cases c39:x60_27=true
         ·subst c39
          have H1:=H
          rw [if_pos rfl] at H1
          clear H
          have H:=H1
          clear H1
          have H':=Aside0.mk H
          clear H
          go_wp2
          go_roundg kj27
          case measure=>have:=HK1.out;have:=HJ20.out;have:=HJ27.out;omega
          case rel=>exact ⟨(x5_1),(wrap64 (x10_1+1)),(by first|rfl|(simp;done)|(simp [*];done)),H',⟨by have:=HK1.out;have:=HJ20.out;have:=HJ27.out;omega⟩,⟨by (with_reducible repeat (first|apply Kd.R_alloc|apply Kd.R_drewN|apply Kd.R_drew));exact HO_5.out⟩,⟨by (with_reducible repeat (first|refine blk_drewN ?_ _|refine blk_drew ?_|refine blk_alloc ?_ _));exact BK287.out⟩,⟨by (with_reducible repeat (first|refine blk_drewN ?_ _|refine blk_drew ?_|refine blk_alloc ?_ _));exact BK288.out⟩,⟨by repeat (first|exact HB.out|apply below_alloc|apply pw_below_drewN|apply below_drew1|refine below_set ?_ GE287.out|refine below_set ?_ GE288.out)⟩⟩
         ·replace c39:=Bool.eq_false_iff.mpr c39
          subst c39
          have H1:=H
          rw [if_neg (show ¬ (false=true) by decide)] at H1
          clear H
          have H:=H1
          clear H1
          by_cases c40:0≤x10_1
          ·rw [if_pos c40] at H
           have c40b0:decide (0≤x10_1)=true:=decide_eq_true c40
           clear c40
           by_cases c41:x10_1<(l0_0.length:Int)
           ·rw [if_pos c41] at H
            have c41b0:decide (x10_1<(l0_0.length:Int))=true:=decide_eq_true c41
            clear c41
            have HC42:=Aside0.mk H
            clear H
            have hnb43:=NB287_288.out
            have hnc43:=NB288_287.out
            have hcz44_0:wc.cell? ⟨gb287,0,none⟩=some (.slice A0_0 l0_0.length c0_0):=(blk_cell BK287.out 0).trans rfl
            have hfz44_0:=blk_frozen BK287.out 0
            have p298:0≤(x10_1:Int):=of_decide_eq_true (by first|(with_reducible assumption)|assumption)
            have q298:x10_1<(l0_0.length:Int):=of_decide_eq_true (by first|(with_reducible assumption)|assumption)
            obtain ⟨ad298,A298_3,c298_3,e298,hx298_0,hx298_1,hx298_2,hx298_3,hx298_4,hx298_5,hl298_3,hi298_3⟩:=at_T59 HR0_0.out x10_1 p298 q298
            cases e298
            replace hx298_0:=pw_cell_below HB.out hx298_0
            replace hx298_1:=pw_cell_below HB.out hx298_1
            replace hx298_2:=pw_cell_below HB.out hx298_2
            replace hx298_3:=pw_cell_below HB.out hx298_3
            replace hx298_4:=pw_cell_below HB.out hx298_4
            replace hx298_5:=pw_cell_below HB.out hx298_5
            have HR298_3:=Aside0.mk hi298_3
            have HC298_3:=Aside0.mk hl298_3
            clear hi298_3 hl298_3
            replace p298:=eq_true p298
            replace q298:=eq_true q298
            go_upto_region 12 with (fail)
            go_cut [74] (fun v74 wc=>∃ (kq:Nat) (x74_41:Bool),v74=.bool x74_41∧Aside0 (spec_RangeText.j3 kq x5_1 t293 t294 t295 t296 x10_1 0 (((rd_T59 l0_0 x10_1).f4).size:Int) x74_41 l0_0=some r)∧Aside0 (kq≤kj27)∧Aside0 (Kd.R (Kd.int .u8) 5 wc w.heap.size (fun _=>True) u5 x5_1)∧Aside0 (wc.heap[gb287]?=some (.cells #[(.slice (some ad298) l0_0.length c0_0)] 31 (0,0)))∧Aside0 (wc.heap[gb288]?=some (.cells #[.int .i64 a1_0,.int .i64 a1_1,.int .i64 a1_2,.int .i64 a1_3] 41 (0,0)))∧Aside0 (Below w.heap.size w wc))
            case first=>
             have H:=HC42.out
             clear HC42
             by_cases c45:x10_1=t293
             ·rw [if_pos c45] at H
              have c45b0:(x10_1==t293)=true:=beq_iff_eq.mpr c45
              have c45b1:(x10_1 != t293)=false:=bne_eq_false_iff_eq.mpr c45
              clear c45
              (first|rw [c45b0]|(simp only [i64_w,i32_w];rw [c45b0])|rw [c45b1]|skip)
              have H':=Aside0.mk H
              clear H
              go_wp2
              go_meet
              case rel=>exact ⟨_,(decide (t294≥0)),(by first|rfl|(simp;done)|(simp [*];done)),H',⟨by have:=HK1.out;have:=HJ20.out;have:=HJ27.out;first|omega|exact Nat.le_refl _⟩,⟨by (with_reducible repeat (first|apply Kd.R_alloc|apply Kd.R_drewN|apply Kd.R_drew));exact HO_5.out⟩,⟨by (with_reducible repeat (first|refine blk_drewN ?_ _|refine blk_drew ?_|refine blk_alloc ?_ _));exact BK287.out⟩,⟨by (with_reducible repeat (first|refine blk_drewN ?_ _|refine blk_drew ?_|refine blk_alloc ?_ _));exact BK288.out⟩,⟨by repeat (first|exact HB.out|apply below_alloc|apply pw_below_drewN|apply below_drew1|refine below_set ?_ GE287.out|refine below_set ?_ GE288.out)⟩⟩
             ·rw [if_neg c45] at H
              have c45b0:(x10_1==t293)=false:=beq_eq_false_iff_ne.mpr c45
              have c45b1:(x10_1 != t293)=true:=bne_iff_ne.mpr c45
              (first|rw [c45b0]|(simp only [i64_w,i32_w];rw [c45b0])|rw [c45b1]|skip)
              have H':=Aside0.mk H
              clear H
              go_wp2
              go_meet
              case rel=>exact ⟨_,(false),(by first|rfl|(simp;done)|(simp [*];done)),H',⟨by have:=HK1.out;have:=HJ20.out;have:=HJ27.out;first|omega|exact Nat.le_refl _⟩,⟨by (with_reducible repeat (first|apply Kd.R_alloc|apply Kd.R_drewN|apply Kd.R_drew));exact HO_5.out⟩,⟨by (with_reducible repeat (first|refine blk_drewN ?_ _|refine blk_drew ?_|refine blk_alloc ?_ _));exact BK287.out⟩,⟨by (with_reducible repeat (first|refine blk_drewN ?_ _|refine blk_drew ?_|refine blk_alloc ?_ _));exact BK288.out⟩,⟨by repeat (first|exact HB.out|apply below_alloc|apply pw_below_drewN|apply below_drew1|refine below_set ?_ GE287.out|refine below_set ?_ GE288.out)⟩⟩
            case rest=>
             clear HC42
             try clear c39;try clear c40;try clear c40b0;try clear c41;try clear c41b0;try clear c45;try clear c45b0;try clear c45b1;try clear hcz44_0;try clear hfz44_0;try clear hx298_0;try clear hx298_1;try clear hx298_2;try clear hx298_3;try clear hx298_4;try clear hx298_5;try clear p298;try clear q298
             obtain ⟨kq,x74_41,rfl,HA,HJ41,HO_5,BK287,BK288,HB⟩:=hcut
             cases kq with
            |zero=>exact absurd HA.out (by simp [spec_RangeText.j3])
            |succ kj41=>
              have H:=HA.out
              clear HA
              simp only [spec_RangeText.j3] at H
              have HC46:=Aside0.mk H
              clear H
              go_upto_if 74 with (fail)
              go_cut [11] (fun v11 wc=>∃ (kq:Nat) (x11_45:Int),v11=.int .i64 x11_45∧Aside0 (spec_RangeText.j4 kq x5_1 t293 t294 t295 t296 x10_1 x11_45 (((rd_T59 l0_0 x10_1).f4).size:Int) l0_0=some r)∧Aside0 (kq≤kj41)∧Aside0 (Kd.R (Kd.int .u8) 5 wc w.heap.size (fun _=>True) u5 x5_1)∧Aside0 (wc.heap[gb287]?=some (.cells #[(.slice (some ad298) l0_0.length c0_0)] 31 (0,0)))∧Aside0 (wc.heap[gb288]?=some (.cells #[.int .i64 a1_0,.int .i64 a1_1,.int .i64 a1_2,.int .i64 a1_3] 41 (0,0)))∧Aside0 (Below w.heap.size w wc))
              case first=>
               have H:=HC46.out
               clear HC46
               by_cases c47:x74_41=true
               ·subst c47
                have H1:=H
                rw [if_pos rfl] at H1
                clear H
                have H:=H1
                clear H1
                have H':=Aside0.mk H
                clear H
                go_wp2
                go_meet
                case rel=>exact ⟨_,(t294),(by first|rfl|(simp;done)|(simp [*];done)),H',⟨by have:=HK1.out;have:=HJ20.out;have:=HJ27.out;have:=HJ41.out;first|omega|exact Nat.le_refl _⟩,⟨by (with_reducible repeat (first|apply Kd.R_alloc|apply Kd.R_drewN|apply Kd.R_drew));exact HO_5.out⟩,⟨by (with_reducible repeat (first|refine blk_drewN ?_ _|refine blk_drew ?_|refine blk_alloc ?_ _));exact BK287.out⟩,⟨by (with_reducible repeat (first|refine blk_drewN ?_ _|refine blk_drew ?_|refine blk_alloc ?_ _));exact BK288.out⟩,⟨by repeat (first|exact HB.out|apply below_alloc|apply pw_below_drewN|apply below_drew1|refine below_set ?_ GE287.out|refine below_set ?_ GE288.out)⟩⟩
               ·replace c47:=Bool.eq_false_iff.mpr c47
                subst c47
                have H1:=H
                rw [if_neg (show ¬ (false=true) by decide)] at H1
                clear H
                have H:=H1
                clear H1
                have H':=Aside0.mk H
                clear H
                go_wp2
                go_meet
                case rel=>exact ⟨_,(0),(by first|rfl|(simp;done)|(simp [*];done)),H',⟨by have:=HK1.out;have:=HJ20.out;have:=HJ27.out;have:=HJ41.out;first|omega|exact Nat.le_refl _⟩,⟨by (with_reducible repeat (first|apply Kd.R_alloc|apply Kd.R_drewN|apply Kd.R_drew));exact HO_5.out⟩,⟨by (with_reducible repeat (first|refine blk_drewN ?_ _|refine blk_drew ?_|refine blk_alloc ?_ _));exact BK287.out⟩,⟨by (with_reducible repeat (first|refine blk_drewN ?_ _|refine blk_drew ?_|refine blk_alloc ?_ _));exact BK288.out⟩,⟨by repeat (first|exact HB.out|apply below_alloc|apply pw_below_drewN|apply below_drew1|refine below_set ?_ GE287.out|refine below_set ?_ GE288.out)⟩⟩
              case rest=>
               clear HC46
               try clear c47
               obtain ⟨kq,x11_45,rfl,HA,HJ45,HO_5,BK287,BK288,HB⟩:=hcut
               cases kq with
              |zero=>exact absurd HA.out (by simp [spec_RangeText.j4])
              |succ kj45=>
                have H:=HA.out
                clear HA
                simp only [spec_RangeText.j4] at H
                by_cases c48:x10_1=t295
                ·rw [if_pos c48] at H
                 have c48b0:(x10_1==t295)=true:=beq_iff_eq.mpr c48
                 have c48b1:(x10_1 != t295)=false:=bne_eq_false_iff_eq.mpr c48
                 clear c48
                 by_cases c49:x11_45<t296
                 ·rw [if_pos c49] at H
                  have c49b0:decide (x11_45<t296)=true:=decide_eq_true c49
                  clear c49
                  by_cases c50:0≤x10_1
                  ·rw [if_pos c50] at H
                   have c50b0:decide (0≤x10_1)=true:=decide_eq_true c50
                   clear c50
                   by_cases c51:x10_1<(l0_0.length:Int)
                   ·rw [if_pos c51] at H
                    have c51b0:decide (x10_1<(l0_0.length:Int))=true:=decide_eq_true c51
                    clear c51
                    by_cases c52:0≤x11_45
                    ·rw [if_pos c52] at H
                     have c52b0:=eq_true c52
                     have c52b1:decide (0≤x11_45)=true:=decide_eq_true c52
                     clear c52
                     by_cases c53:x11_45≤t296
                     ·rw [if_pos c53] at H
                      have c53b0:=eq_true c53
                      have c53b1:decide (x11_45≤t296)=true:=decide_eq_true c53
                      clear c53
                      by_cases c54:t296≤(((rd_T59 l0_0 x10_1).f4).size:Int)
                      ·rw [if_pos c54] at H
                       have c54b0:=eq_true c54
                       have c54b1:decide (t296≤(((rd_T59 l0_0 x10_1).f4).size:Int))=true:=decide_eq_true c54
                       clear c54
                       by_cases c55:x5_1.length+(((rd_T59 l0_0 x10_1).f4).extract (x11_45:Int).toNat (t296:Int).toNat).size<140737488355328
                       ·rw [if_pos c55] at H
                        have LMc55:=Aside0.mk c55
                        clear c55
                        obtain ⟨y300,hy300⟩:∃ y_:List Int,y_=(x5_1++bytesOf (((rd_T59 l0_0 x10_1).f4).extract (x11_45:Int).toNat (t296:Int).toNat)):=⟨_,rfl⟩
                        replace H:(spec_RangeText.l0 kj45 y300 t293 t294 t295 t296 (wrap64 (x10_1+1)) l0_0)=some r:=by first|(rw [hy300];with_reducible exact H)|(have H2_:=(Option.bind_some _ _).symm.trans H;rw [hy300];with_reducible exact H2_)|(have H2_:=(Option.bind_some _ _).symm.trans H;with_reducible exact H2_)|with_reducible exact H|(rw [hy300];exact H)|exact H
                        have Ny300:=Aside0.mk hy300
                        clear hy300
                        have H':=Aside0.mk H
                        clear H
                        have hnb56:=NB287_288.out
                        have hnc56:=NB288_287.out
                        have hcz57_0:wc.cell? ⟨gb287,0,none⟩=some (.slice (some ad298) l0_0.length c0_0):=(blk_cell BK287.out 0).trans rfl
                        have hfz57_0:=blk_frozen BK287.out 0
                        have p299:0≤(x10_1:Int):=of_decide_eq_true (by first|(with_reducible assumption)|assumption)
                        have q299:x10_1<(l0_0.length:Int):=of_decide_eq_true (by first|(with_reducible assumption)|assumption)
                        obtain ⟨ad299,A299_3,c299_3,e299,hx299_0,hx299_1,hx299_2,hx299_3,hx299_4,hx299_5,hl299_3,hi299_3⟩:=at_T59 HR0_0.out x10_1 p299 q299
                        obtain rfl:ad298=ad299:=(by injection e299)
                        replace hx299_0:=pw_cell_below HB.out hx299_0
                        replace hx299_1:=pw_cell_below HB.out hx299_1
                        replace hx299_2:=pw_cell_below HB.out hx299_2
                        replace hx299_3:=pw_cell_below HB.out hx299_3
                        replace hx299_4:=pw_cell_below HB.out hx299_4
                        replace hx299_5:=pw_cell_below HB.out hx299_5
                        have HR299_3:=Aside0.mk hi299_3
                        have HC299_3:=Aside0.mk hl299_3
                        clear hi299_3 hl299_3
                        replace p299:=eq_true p299
                        replace q299:=eq_true q299
                        go_wp2_with (first|(at_builtin;refine print_append_str (w0:=w) w.heap.size rfl (.tmp 83) _ 53 9 5 rfl Try.underlying53 Try.underlying9 info5 u5 x5_1 (((rd_T59 l0_0 x10_1).f4).extract (x11_45:Int).toNat (t296:Int).toNat) rfl rfl ?aO ?aB ?aS ?aL ?_;(case aB=>exact (by repeat (first|exact HB.out|apply below_alloc|apply pw_below_drewN|apply below_drew1|refine below_set ?_ GE287.out|refine below_set ?_ GE288.out)));(case aO=>exact (Kd.own_of_R (by (with_reducible repeat (first|apply Kd.R_alloc|apply Kd.R_drewN|apply Kd.R_drew));exact HO_5.out)));(case aS=>exact (below_size (by repeat (first|exact HB.out|apply below_alloc|apply pw_below_drewN|apply below_drew1|refine below_set ?_ GE287.out|refine below_set ?_ GE288.out))));(case aL=>have:=LMc55.out;omega);intro v301 w58 ho0 hb hg;have ho:=Kd.R_of_own (h1:=fun _=>rfl) (ok:=fun _=>True) ho0 (fun _ _=>trivial);clear ho0;have hat:=True.intro;rw [← Ny300.out] at ho;change Kd.R (Kd.int .u8) 5 w58 w.heap.size (fun _=>True) v301 y300 at ho;have n0_:=Aside0.mk (blk_grown (g:=gb287) (o:=.cells #[.slice (some ad298) l0_0.length c0_0] 31 (0,0)) (by (with_reducible repeat (first|refine blk_drewN ?_ _|refine blk_drew ?_|refine blk_alloc ?_ _));exact BK287.out) hg (Kd.R_ne HO_5.out BK287.out (by decide)));have n1_:=Aside0.mk (blk_grown (g:=gb288) (o:=.cells #[.int .i64 a1_0,.int .i64 a1_1,.int .i64 a1_2,.int .i64 a1_3] 41 (0,0)) (by (with_reducible repeat (first|refine blk_drewN ?_ _|refine blk_drew ?_|refine blk_alloc ?_ _));exact BK288.out) hg (Kd.R_ne HO_5.out BK288.out (by decide)));have n2_:=Aside0.mk (hb);have n3_:=Aside0.mk (ho);clear BK287;clear BK288;clear HB;clear HO_5;have BK287:=n0_;have BK288:=n1_;have HB:=n2_;have HO302:=n3_;clear n0_ n1_ n2_ n3_;clear ho hb hg hat))
                        go_roundg kj45
                        case measure=>have:=HK1.out;have:=HJ20.out;have:=HJ27.out;have:=HJ41.out;have:=HJ45.out;omega
                        case rel=>exact ⟨(y300),(wrap64 (x10_1+1)),(by first|rfl|(simp;done)|(simp [*];done)),H',⟨by have:=HK1.out;have:=HJ20.out;have:=HJ27.out;have:=HJ41.out;have:=HJ45.out;omega⟩,⟨by (with_reducible repeat (first|apply Kd.R_alloc|apply Kd.R_drewN|apply Kd.R_drew));exact HO302.out⟩,⟨by (with_reducible repeat (first|refine blk_drewN ?_ _|refine blk_drew ?_|refine blk_alloc ?_ _));exact BK287.out⟩,⟨by (with_reducible repeat (first|refine blk_drewN ?_ _|refine blk_drew ?_|refine blk_alloc ?_ _));exact BK288.out⟩,⟨by repeat (first|exact HB.out|apply below_alloc|apply pw_below_drewN|apply below_drew1|refine below_set ?_ GE287.out|refine below_set ?_ GE288.out)⟩⟩
                       ·rw [if_neg c55] at H
                        exact absurd H (by simp)
                      ·rw [if_neg c54] at H
                       exact absurd H (by simp)
                     ·rw [if_neg c53] at H
                      exact absurd H (by simp)
                    ·rw [if_neg c52] at H
                     exact absurd H (by simp)
                   ·rw [if_neg c51] at H
                    exact absurd H (by simp)
                  ·rw [if_neg c50] at H
                   exact absurd H (by simp)
                 ·rw [if_neg c49] at H
                  have c49b0:decide (x11_45<t296)=false:=decide_eq_false c49
                  clear c49
                  have H':=Aside0.mk H
                  clear H
                  go_wp2
                  go_roundg kj45
                  case measure=>have:=HK1.out;have:=HJ20.out;have:=HJ27.out;have:=HJ41.out;have:=HJ45.out;omega
                  case rel=>exact ⟨(x5_1),(wrap64 (x10_1+1)),(by first|rfl|(simp;done)|(simp [*];done)),H',⟨by have:=HK1.out;have:=HJ20.out;have:=HJ27.out;have:=HJ41.out;have:=HJ45.out;omega⟩,⟨by (with_reducible repeat (first|apply Kd.R_alloc|apply Kd.R_drewN|apply Kd.R_drew));exact HO_5.out⟩,⟨by (with_reducible repeat (first|refine blk_drewN ?_ _|refine blk_drew ?_|refine blk_alloc ?_ _));exact BK287.out⟩,⟨by (with_reducible repeat (first|refine blk_drewN ?_ _|refine blk_drew ?_|refine blk_alloc ?_ _));exact BK288.out⟩,⟨by repeat (first|exact HB.out|apply below_alloc|apply pw_below_drewN|apply below_drew1|refine below_set ?_ GE287.out|refine below_set ?_ GE288.out)⟩⟩
                ·rw [if_neg c48] at H
                 have c48b0:(x10_1==t295)=false:=beq_eq_false_iff_ne.mpr c48
                 have c48b1:(x10_1 != t295)=true:=bne_iff_ne.mpr c48
                 by_cases c59:x11_45<(((rd_T59 l0_0 x10_1).f4).size:Int)
                 ·rw [if_pos c59] at H
                  have c59b0:decide (x11_45<(((rd_T59 l0_0 x10_1).f4).size:Int))=true:=decide_eq_true c59
                  clear c59
                  by_cases c60:0≤x10_1
                  ·rw [if_pos c60] at H
                   have c60b0:decide (0≤x10_1)=true:=decide_eq_true c60
                   clear c60
                   by_cases c61:x10_1<(l0_0.length:Int)
                   ·rw [if_pos c61] at H
                    have c61b0:decide (x10_1<(l0_0.length:Int))=true:=decide_eq_true c61
                    clear c61
                    by_cases c62:0≤x11_45
                    ·rw [if_pos c62] at H
                     have c62b0:=eq_true c62
                     have c62b1:decide (0≤x11_45)=true:=decide_eq_true c62
                     clear c62
                     by_cases c63:x11_45≤(((rd_T59 l0_0 x10_1).f4).size:Int)
                     ·rw [if_pos c63] at H
                      have c63b0:=eq_true c63
                      have c63b1:decide (x11_45≤(((rd_T59 l0_0 x10_1).f4).size:Int))=true:=decide_eq_true c63
                      clear c63
                      by_cases c64:(((rd_T59 l0_0 x10_1).f4).size:Int)≤(((rd_T59 l0_0 x10_1).f4).size:Int)
                      ·rw [if_pos c64] at H
                       have c64b0:=eq_true c64
                       have c64b1:decide ((((rd_T59 l0_0 x10_1).f4).size:Int)≤(((rd_T59 l0_0 x10_1).f4).size:Int))=true:=decide_eq_true c64
                       clear c64
                       by_cases c65:x5_1.length+(((rd_T59 l0_0 x10_1).f4).extract (x11_45:Int).toNat ((((rd_T59 l0_0 x10_1).f4).size:Int):Int).toNat).size<140737488355328
                       ·rw [if_pos c65] at H
                        have LMc65:=Aside0.mk c65
                        clear c65
                        obtain ⟨y304,hy304⟩:∃ y_:List Int,y_=(x5_1++bytesOf (((rd_T59 l0_0 x10_1).f4).extract (x11_45:Int).toNat ((((rd_T59 l0_0 x10_1).f4).size:Int):Int).toNat)):=⟨_,rfl⟩
                        replace H:(spec_RangeText.l0 kj45 y304 t293 t294 t295 t296 (wrap64 (x10_1+1)) l0_0)=some r:=by first|(rw [hy304];with_reducible exact H)|(have H2_:=(Option.bind_some _ _).symm.trans H;rw [hy304];with_reducible exact H2_)|(have H2_:=(Option.bind_some _ _).symm.trans H;with_reducible exact H2_)|with_reducible exact H|(rw [hy304];exact H)|exact H
                        have Ny304:=Aside0.mk hy304
                        clear hy304
                        have H':=Aside0.mk H
                        clear H
                        have hnb66:=NB287_288.out
                        have hnc66:=NB288_287.out
                        have hcz67_0:wc.cell? ⟨gb287,0,none⟩=some (.slice (some ad298) l0_0.length c0_0):=(blk_cell BK287.out 0).trans rfl
                        have hfz67_0:=blk_frozen BK287.out 0
                        have p303:0≤(x10_1:Int):=of_decide_eq_true (by first|(with_reducible assumption)|assumption)
                        have q303:x10_1<(l0_0.length:Int):=of_decide_eq_true (by first|(with_reducible assumption)|assumption)
                        obtain ⟨ad303,A303_3,c303_3,e303,hx303_0,hx303_1,hx303_2,hx303_3,hx303_4,hx303_5,hl303_3,hi303_3⟩:=at_T59 HR0_0.out x10_1 p303 q303
                        obtain rfl:ad298=ad303:=(by injection e303)
                        replace hx303_0:=pw_cell_below HB.out hx303_0
                        replace hx303_1:=pw_cell_below HB.out hx303_1
                        replace hx303_2:=pw_cell_below HB.out hx303_2
                        replace hx303_3:=pw_cell_below HB.out hx303_3
                        replace hx303_4:=pw_cell_below HB.out hx303_4
                        replace hx303_5:=pw_cell_below HB.out hx303_5
                        have HR303_3:=Aside0.mk hi303_3
                        have HC303_3:=Aside0.mk hl303_3
                        clear hi303_3 hl303_3
                        replace p303:=eq_true p303
                        replace q303:=eq_true q303
                        go_wp2_with (first|(at_builtin;refine print_append_str (w0:=w) w.heap.size rfl (.tmp 83) _ 53 9 5 rfl Try.underlying53 Try.underlying9 info5 u5 x5_1 (((rd_T59 l0_0 x10_1).f4).extract (x11_45:Int).toNat ((((rd_T59 l0_0 x10_1).f4).size:Int):Int).toNat) rfl rfl ?aO ?aB ?aS ?aL ?_;(case aB=>exact (by repeat (first|exact HB.out|apply below_alloc|apply pw_below_drewN|apply below_drew1|refine below_set ?_ GE287.out|refine below_set ?_ GE288.out)));(case aO=>exact (Kd.own_of_R (by (with_reducible repeat (first|apply Kd.R_alloc|apply Kd.R_drewN|apply Kd.R_drew));exact HO_5.out)));(case aS=>exact (below_size (by repeat (first|exact HB.out|apply below_alloc|apply pw_below_drewN|apply below_drew1|refine below_set ?_ GE287.out|refine below_set ?_ GE288.out))));(case aL=>have:=LMc65.out;omega);intro v305 w68 ho0 hb hg;have ho:=Kd.R_of_own (h1:=fun _=>rfl) (ok:=fun _=>True) ho0 (fun _ _=>trivial);clear ho0;have hat:=True.intro;rw [← Ny304.out] at ho;change Kd.R (Kd.int .u8) 5 w68 w.heap.size (fun _=>True) v305 y304 at ho;have n0_:=Aside0.mk (blk_grown (g:=gb287) (o:=.cells #[.slice (some ad298) l0_0.length c0_0] 31 (0,0)) (by (with_reducible repeat (first|refine blk_drewN ?_ _|refine blk_drew ?_|refine blk_alloc ?_ _));exact BK287.out) hg (Kd.R_ne HO_5.out BK287.out (by decide)));have n1_:=Aside0.mk (blk_grown (g:=gb288) (o:=.cells #[.int .i64 a1_0,.int .i64 a1_1,.int .i64 a1_2,.int .i64 a1_3] 41 (0,0)) (by (with_reducible repeat (first|refine blk_drewN ?_ _|refine blk_drew ?_|refine blk_alloc ?_ _));exact BK288.out) hg (Kd.R_ne HO_5.out BK288.out (by decide)));have n2_:=Aside0.mk (hb);have n3_:=Aside0.mk (ho);clear BK287;clear BK288;clear HB;clear HO_5;have BK287:=n0_;have BK288:=n1_;have HB:=n2_;have HO306:=n3_;clear n0_ n1_ n2_ n3_;clear ho hb hg hat))
                        go_roundg kj45
                        case measure=>have:=HK1.out;have:=HJ20.out;have:=HJ27.out;have:=HJ41.out;have:=HJ45.out;omega
                        case rel=>exact ⟨(y304),(wrap64 (x10_1+1)),(by first|rfl|(simp;done)|(simp [*];done)),H',⟨by have:=HK1.out;have:=HJ20.out;have:=HJ27.out;have:=HJ41.out;have:=HJ45.out;omega⟩,⟨by (with_reducible repeat (first|apply Kd.R_alloc|apply Kd.R_drewN|apply Kd.R_drew));exact HO306.out⟩,⟨by (with_reducible repeat (first|refine blk_drewN ?_ _|refine blk_drew ?_|refine blk_alloc ?_ _));exact BK287.out⟩,⟨by (with_reducible repeat (first|refine blk_drewN ?_ _|refine blk_drew ?_|refine blk_alloc ?_ _));exact BK288.out⟩,⟨by repeat (first|exact HB.out|apply below_alloc|apply pw_below_drewN|apply below_drew1|refine below_set ?_ GE287.out|refine below_set ?_ GE288.out)⟩⟩
                       ·rw [if_neg c65] at H
                        exact absurd H (by simp)
                      ·rw [if_neg c64] at H
                       exact absurd H (by simp)
                     ·rw [if_neg c63] at H
                      exact absurd H (by simp)
                    ·rw [if_neg c62] at H
                     exact absurd H (by simp)
                   ·rw [if_neg c61] at H
                    exact absurd H (by simp)
                  ·rw [if_neg c60] at H
                   exact absurd H (by simp)
                 ·rw [if_neg c59] at H
                  have c59b0:decide (x11_45<(((rd_T59 l0_0 x10_1).f4).size:Int))=false:=decide_eq_false c59
                  clear c59
                  have H':=Aside0.mk H
                  clear H
                  go_wp2
                  go_roundg kj45
                  case measure=>have:=HK1.out;have:=HJ20.out;have:=HJ27.out;have:=HJ41.out;have:=HJ45.out;omega
                  case rel=>exact ⟨(x5_1),(wrap64 (x10_1+1)),(by first|rfl|(simp;done)|(simp [*];done)),H',⟨by have:=HK1.out;have:=HJ20.out;have:=HJ27.out;have:=HJ41.out;have:=HJ45.out;omega⟩,⟨by (with_reducible repeat (first|apply Kd.R_alloc|apply Kd.R_drewN|apply Kd.R_drew));exact HO_5.out⟩,⟨by (with_reducible repeat (first|refine blk_drewN ?_ _|refine blk_drew ?_|refine blk_alloc ?_ _));exact BK287.out⟩,⟨by (with_reducible repeat (first|refine blk_drewN ?_ _|refine blk_drew ?_|refine blk_alloc ?_ _));exact BK288.out⟩,⟨by repeat (first|exact HB.out|apply below_alloc|apply pw_below_drewN|apply below_drew1|refine below_set ?_ GE287.out|refine below_set ?_ GE288.out)⟩⟩
           ·rw [if_neg c41] at H
            exact absurd H (by simp)
          ·rw [if_neg c40] at H
           exact absurd H (by simp)
      ·replace c27:=Bool.eq_false_iff.mpr c27
       subst c27
       have H1:=H
       rw [if_neg (show ¬ (false=true) by decide)] at H1
       clear H
       have H:=H1
       clear H1
       obtain rfl:=Option.some.inj H
       have hcv69:=own_string (P:=Try.prog) Try.underlying53 Try.underlying5 Try.underlying9 (Kd.own_of_R HO_5.out)
       go_wp2
       go_ret
       exact ⟨by first|rfl|(simp [errW_none,errW_some]<;>rfl)|(simp [*,errW_none,errW_some]<;>rfl),by repeat (first|exact HB.out|apply below_alloc|apply pw_below_drewN|apply below_drew1|refine below_set ?_ GE287.out|refine below_set ?_ GE288.out)⟩
 ·replace c4:=Bool.eq_false_iff.mpr c4
  subst c4
  have H1:=H
  rw [if_neg (show ¬ (false=true) by decide)] at H1
  clear H
  have H:=H1
  clear H1
  obtain rfl:=Option.some.inj H
  go_enter Try.func11,Try.ntmps11
  go_wp2_with (first|((with_reducible refine gate_dst (N:=2) rfl ?_);refine box_event rfl (N:=2) rfl (cs:=#[.slice A0_0 l0_0.length c0_0]) (t:=31) ?hr ?_;(case hr=>first|(go_simp;done)|(go_simp;rfl));intro gb287 hg w70 hbox hb;have n0_:=Aside0.mk (below_step (by repeat (first|exact HB.out|apply below_alloc|apply pw_below_drewN|apply below_drew1)) hb);have n1_:=Aside0.mk (hbox);have n2_:=Aside0.mk ((by rw [hg];exact (below_size (by repeat (first|exact HB.out|apply below_alloc|apply pw_below_drewN|apply below_drew1))):w.heap.size≤gb287));have n3_:=Aside0.mk ((by rw [hg];exact (below_size (by repeat (first|exact HB.out|apply below_alloc|apply pw_below_drewN|apply below_drew1))):w.heap.size≤gb287));clear HB;have HB:=n0_;have BK287:=n1_;have GW287:=n2_;have GE287:=n3_;clear n0_ n1_ n2_ n3_;clear hb hbox hg)|((with_reducible refine gate_dst (N:=3) rfl ?_);refine box_event rfl (N:=3) rfl (cs:=#[.int .i64 a1_0,.int .i64 a1_1,.int .i64 a1_2,.int .i64 a1_3]) (t:=41) ?hr ?_;(case hr=>first|(go_simp;done)|(go_simp;rfl));intro gb288 hg w71 hbox hb;have n0_:=Aside0.mk (blk_below (g:=gb287) (o:=.cells #[.slice A0_0 l0_0.length c0_0] 31 (0,0)) (by (with_reducible repeat (first|refine blk_drewN ?_ _|refine blk_drew ?_|refine blk_alloc ?_ _));exact BK287.out) hb);have n1_:=Aside0.mk (below_step (by repeat (first|exact HB.out|apply below_alloc|apply pw_below_drewN|apply below_drew1|refine below_set ?_ GE287.out)) hb);have n2_:=Aside0.mk (hbox);have n3_:=Aside0.mk ((by rw [hg];exact (below_size (by repeat (first|exact HB.out|apply below_alloc|apply pw_below_drewN|apply below_drew1|refine below_set ?_ GE287.out))):w.heap.size≤gb288));have n4_:=Aside0.mk ((by rw [hg];exact (below_size (by repeat (first|exact HB.out|apply below_alloc|apply pw_below_drewN|apply below_drew1|refine below_set ?_ GE287.out))):w.heap.size≤gb288));have n5_:=Aside0.mk ((by rw [hg];exact Nat.ne_of_lt (blk_lt (g:=gb287) (o:=.cells #[.slice A0_0 l0_0.length c0_0] 31 (0,0)) (by (with_reducible repeat (first|refine blk_drewN ?_ _|refine blk_drew ?_|refine blk_alloc ?_ _));exact BK287.out)):gb287≠gb288));have n6_:=Aside0.mk ((by rw [hg];exact Nat.ne_of_gt (blk_lt (g:=gb287) (o:=.cells #[.slice A0_0 l0_0.length c0_0] 31 (0,0)) (by (with_reducible repeat (first|refine blk_drewN ?_ _|refine blk_drew ?_|refine blk_alloc ?_ _));exact BK287.out)):gb288≠gb287));clear BK287;clear HB;have BK287:=n0_;have HB:=n1_;have BK288:=n2_;have GW288:=n3_;have GE288:=n4_;have NB287_288:=n5_;have NB288_287:=n6_;clear n0_ n1_ n2_ n3_ n4_ n5_ n6_;clear hb hbox hg)|((with_reducible refine gate_dst (N:=13) rfl ?_);refine Kd.R_lit (Kd.int .u8) _ 5 ?hg (N:=13) ?hd (xs:=([]:List Int)) (inner:=[]) (ok:=fun _=>True) (okp:=fun _=>True) ?hr ?hp (fun _ hk=>hk) trivial (Below.refl _ _) (Nat.le_refl _) (by simp) ?_;(case hd=>rfl);(case hg=>rfl);(case hr=>first|(go_simp;done)|(go_simp;rfl));(case hp=>exact (Reps.none _ _));intro v290 w72 ho73 hb hg_ hnew_;clear hg_ hnew_;(first|rw [← Ny289.out] at ho73|(simp only [Int.reduceToNat] at ho73;rw [← Ny289.out] at ho73));have n0_:=Aside0.mk (Kd.R_lower ho73 (below_size (by repeat (first|exact HB.out|apply below_alloc|apply pw_below_drewN|apply below_drew1|refine below_set ?_ GE287.out|refine below_set ?_ GE288.out))));have n1_:=Aside0.mk (blk_below (g:=gb287) (o:=.cells #[.slice A0_0 l0_0.length c0_0] 31 (0,0)) (by (with_reducible repeat (first|refine blk_drewN ?_ _|refine blk_drew ?_|refine blk_alloc ?_ _));exact BK287.out) hb);have n2_:=Aside0.mk (blk_below (g:=gb288) (o:=.cells #[.int .i64 a1_0,.int .i64 a1_1,.int .i64 a1_2,.int .i64 a1_3] 41 (0,0)) (by (with_reducible repeat (first|refine blk_drewN ?_ _|refine blk_drew ?_|refine blk_alloc ?_ _));exact BK288.out) hb);have n3_:=Aside0.mk (below_step (by repeat (first|exact HB.out|apply below_alloc|apply pw_below_drewN|apply below_drew1|refine below_set ?_ GE287.out|refine below_set ?_ GE288.out)) hb);clear BK287;clear BK288;clear HB;have HO291:=n0_;have BK287:=n1_;have BK288:=n2_;have HB:=n3_;clear n0_ n1_ n2_ n3_;clear hb ho73;have hnb74:=NB287_288.out;have hnc74:=NB288_287.out;have hcz75_0:w72.cell? ⟨gb287,0,none⟩=some (.slice A0_0 l0_0.length c0_0):=(blk_cell BK287.out 0).trans rfl;have hfz75_0:=blk_frozen BK287.out 0;have hcz76_0:w72.cell? ⟨gb288,0,none⟩=some (.int .i64 a1_0):=(blk_cell BK288.out 0).trans rfl;have hcz76_1:w72.cell? ⟨gb288,1,none⟩=some (.int .i64 a1_1):=(blk_cell BK288.out 1).trans rfl;have hcz76_2:w72.cell? ⟨gb288,2,none⟩=some (.int .i64 a1_2):=(blk_cell BK288.out 2).trans rfl;have hcz76_3:w72.cell? ⟨gb288,3,none⟩=some (.int .i64 a1_3):=(blk_cell BK288.out 3).trans rfl;have hfz76_0:=blk_frozen BK288.out 0;have hfz76_1:=blk_frozen BK288.out 1;have hfz76_2:=blk_frozen BK288.out 2;have hfz76_3:=blk_frozen BK288.out 3)|((with_reducible refine gate_callee (f:=23) rfl ?_);refine goesL_ (some 16) rfl rfl Try.func23 (by kernel_rfl) rfl #[.agg #[.slice A0_0 l0_0.length c0_0],.agg #[.int .i64 a1_0,.int .i64 a1_1,.int .i64 a1_2,.int .i64 a1_3]] rfl (by (try simp only [List.map_toArray,List.map_cons,List.map_nil]);first|done|rfl|(simp only [List.length_drop,List.length_take];rfl)) ?_;(with_reducible refine (spec_l5RangeOk.calls k _ _ l0_0 a1_0 a1_1 a1_2 a1_3 false _ ?side1 ?side2 A3.out).mono ?_);(case side1=>repeat (first|exact (Kd.C_below HR0_0.out HB.out)|(with_reducible refine Kd.C_alloc ?_ _)|(with_reducible refine Kd.C_drewN ?_ _)|(with_reducible refine Kd.C_drew ?_)));(case side2=>exact HC0_0.out);rintro e w77 ⟨rfl,hb⟩;refine ⟨_,rfl,?_⟩;have n0_:=Aside0.mk (Kd.R_below (by (with_reducible repeat (first|apply Kd.R_alloc|apply Kd.R_drewN|apply Kd.R_drew));exact HO291.out) hb);have n1_:=Aside0.mk (blk_below (g:=gb287) (o:=.cells #[.slice A0_0 l0_0.length c0_0] 31 (0,0)) (by (with_reducible repeat (first|refine blk_drewN ?_ _|refine blk_drew ?_|refine blk_alloc ?_ _));exact BK287.out) hb);have n2_:=Aside0.mk (blk_below (g:=gb288) (o:=.cells #[.int .i64 a1_0,.int .i64 a1_1,.int .i64 a1_2,.int .i64 a1_3] 41 (0,0)) (by (with_reducible repeat (first|refine blk_drewN ?_ _|refine blk_drew ?_|refine blk_alloc ?_ _));exact BK288.out) hb);have n3_:=Aside0.mk (below_step (by repeat (first|exact HB.out|apply below_alloc|apply pw_below_drewN|apply below_drew1|refine below_set ?_ GE287.out|refine below_set ?_ GE288.out)) hb);clear HO291;clear BK287;clear BK288;clear HB;have HO291:=n0_;have BK287:=n1_;have BK288:=n2_;have HB:=n3_;clear n0_ n1_ n2_ n3_;(try clear hb);(try clear hb2);(try clear hk);(try clear hi)))
  go_ret
  exact ⟨by first|rfl|(simp [errW_none,errW_some]<;>rfl)|(simp [*,errW_none,errW_some]<;>rfl),by repeat (first|exact HB.out|apply below_alloc|apply pw_below_drewN|apply below_drew1|refine below_set ?_ GE287.out|refine below_set ?_ GE288.out)⟩
end Go.Proofs.Ytbogfagafdokeaa.QFnExactRangeText
