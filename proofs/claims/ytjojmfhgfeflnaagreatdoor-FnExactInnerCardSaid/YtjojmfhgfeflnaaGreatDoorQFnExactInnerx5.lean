/- Written by a program (wip/tools/own_print.py) out of the walk that the kit's printer made; turned where it fell. -/
-- PRINTED by print.py (a twelfth state) out of the translation. Not trusted: Lean checks it.
import Derived.Test.YtjojmfhgfeflnaaGreatDoorQFnExactInnerx0
import Derived.Test.YtjojmfhgfeflnaaGreatDoorQFnExactInnerx3
import Derived.Test.YtjojmfhgfeflnaaGreatDoorQFnExactInnerx4
namespace Go.Proofs.YtjojmfhgfeflnaaGreatDoor.QFnExactInner
open Go.RowKit Go.Proofs.YtjojmfhgfeflnaaGreatDoorV.PrintWords Go.Proofs.YtjojmfhgfeflnaaGreatDoorV.PrintLast Go.Proofs.YtjojmfhgfeflnaaGreatDoorV.PrintMore
attribute [local go_sem] max2_int min2_int max_two min_two max_three min_three max_four min_four   -- for this text's walks alone
set_option linter.unusedVariables false
set_option linter.unusedSimpArgs false
/-! ### spec_TreeOk: function 13 -/
mutual
def spec_TreeOk.j0:Nat→Int→Bool→List (S57)→Option (Bool)
 |0,_,_,_=>none
 |k+1,x3,x22,x172000=>if x22=true then (some false) else (spec_TreeOk.l0 k x3 (([]:List Int)) 0 x172000)
def spec_TreeOk.l0:Nat→Int→List Int→Int→List (S57)→Option (Bool)
 |0,_,_,_,_=>none
 |k+1,x3,x4,x5,x172000=>if x5<x3 then (if 0≤x5 then (if x5<(x172000.length:Int) then ((spec_l3NodeOk.f k ((rd_T57 x172000 x5).f0) ((rd_T57 x172000 x5).f1) ((rd_T57 x172000 x5).f2) ((rd_T57 x172000 x5).f3) ((rd_T57 x172000 x5).f4) ((rd_T57 x172000 x5).f5) (x5==0)).bind fun t177=>(if t177=true then (spec_TreeOk.j2 k x3 x4 x5 (decide ((x4.length:Int) > 400)) x172000) else (spec_TreeOk.j2 k x3 x4 x5 true x172000))) else (none)) else (none)) else (some true)
def spec_TreeOk.j2:Nat→Int→List Int→Int→Bool→List (S57)→Option (Bool)
 |0,_,_,_,_,_=>none
 |k+1,x3,x4,x5,x42,x172000=>if x42=true then (some false) else (spec_TreeOk.l1 k x3 x4 x5 0 x172000)
def spec_TreeOk.l1:Nat→Int→List Int→Int→Int→List (S57)→Option (Bool)
 |0,_,_,_,_,_=>none
 |k+1,x3,x4,x5,x6,x172000=>if x6<x5 then (if 0≤x6 then (if x6<(x172000.length:Int) then (if 0≤x5 then (if x5<(x172000.length:Int) then (if ((rd_T57 x172000 x6).f0)=((rd_T57 x172000 x5).f0) then (some false) else (spec_TreeOk.l1 k x3 x4 x5 (wrap64 (x6+1)) x172000)) else (none)) else (none)) else (none)) else (none)) else (if (x4.length:Int) > 0 then (if 0≤(wrap64 ((x4.length:Int) - 1)) then (if (wrap64 ((x4.length:Int) - 1))<(x4.length:Int) then (spec_TreeOk.j4 k x3 (x4.set ((wrap64 ((x4.length:Int) - 1)):Int).toNat (wrap64 ((rd x4 (wrap64 ((x4.length:Int) - 1))) - 1))) x5 x172000) else (none)) else (none)) else (spec_TreeOk.j4 k x3 x4 x5 x172000))
def spec_TreeOk.j4:Nat→Int→List Int→Int→List (S57)→Option (Bool)
 |0,_,_,_,_=>none
 |k+1,x3,x4,x5,x172000=>if 0≤x5 then (if x5<(x172000.length:Int) then (if x4.length<17592186044416 then (spec_TreeOk.l2 k x3 (x4++[(rd_T57 x172000 x5).f5]) x5 x172000) else (none)) else (none)) else (none)
def spec_TreeOk.l2:Nat→Int→List Int→Int→List (S57)→Option (Bool)
 |0,_,_,_,_=>none
 |k+1,x3,x4,x5,x172000=>if (x4.length:Int) > 0 then (if 0≤(wrap64 ((x4.length:Int) - 1)) then (if (wrap64 ((x4.length:Int) - 1))<(x4.length:Int) then (if (rd x4 (wrap64 ((x4.length:Int) - 1)))=0 then (if (wrap64 ((x4.length:Int) - 1))≤(x4.length:Int) then (spec_TreeOk.l2 k x3 (x4.take ((wrap64 ((x4.length:Int) - 1)):Int).toNat) x5 x172000) else (none)) else (spec_TreeOk.l0 k x3 x4 (wrap64 (x5+1)) x172000)) else (none)) else (none)) else (spec_TreeOk.l0 k x3 x4 (wrap64 (x5+1)) x172000)
end
def spec_TreeOk.f (k:Nat) (l0_0:List (S57)):Option (Bool):=if (l0_0.length:Int)<1 then (spec_TreeOk.j0 k (l0_0.length:Int) true l0_0) else (if (l0_0.length:Int) > 4000 then (spec_TreeOk.j0 k (l0_0.length:Int) true l0_0) else ((spec_l3Skip.f k l0_0 0).bind fun t172=>(spec_TreeOk.j0 k (l0_0.length:Int) (t172 != (l0_0.length:Int)) l0_0)))
theorem spec_TreeOk.mono_l:∀ k,(∀ y0 y1 y2,LeO (spec_TreeOk.j0 k y0 y1 y2) (spec_TreeOk.j0 (k+1) y0 y1 y2))∧(∀ y0 y1 y2 y3,LeO (spec_TreeOk.l0 k y0 y1 y2 y3) (spec_TreeOk.l0 (k+1) y0 y1 y2 y3))∧(∀ y0 y1 y2 y3 y4,LeO (spec_TreeOk.j2 k y0 y1 y2 y3 y4) (spec_TreeOk.j2 (k+1) y0 y1 y2 y3 y4))∧(∀ y0 y1 y2 y3 y4,LeO (spec_TreeOk.l1 k y0 y1 y2 y3 y4) (spec_TreeOk.l1 (k+1) y0 y1 y2 y3 y4))∧(∀ y0 y1 y2 y3,LeO (spec_TreeOk.j4 k y0 y1 y2 y3) (spec_TreeOk.j4 (k+1) y0 y1 y2 y3))∧(∀ y0 y1 y2 y3,LeO (spec_TreeOk.l2 k y0 y1 y2 y3) (spec_TreeOk.l2 (k+1) y0 y1 y2 y3))
 |0=>⟨fun _ _ _ r h=>by simp [spec_TreeOk.j0] at h,fun _ _ _ _ r h=>by simp [spec_TreeOk.l0] at h,fun _ _ _ _ _ r h=>by simp [spec_TreeOk.j2] at h,fun _ _ _ _ _ r h=>by simp [spec_TreeOk.l1] at h,fun _ _ _ _ r h=>by simp [spec_TreeOk.j4] at h,fun _ _ _ _ r h=>by simp [spec_TreeOk.l2] at h⟩
 |k+1=>by
  obtain ⟨ih0,ih1,ih2,ih3,ih4,ih5⟩:=spec_TreeOk.mono_l k
  refine ⟨?_,?_,?_,?_,?_,?_⟩
  ·intro y0 y1 y2
   unfold spec_TreeOk.j0
   repeat' first
   |(with_reducible exact ih0 _ _ _)
   |(with_reducible exact ih1 _ _ _ _)
   |(with_reducible exact ih2 _ _ _ _ _)
   |(with_reducible exact ih3 _ _ _ _ _)
   |(with_reducible exact ih4 _ _ _ _)
   |(with_reducible exact ih5 _ _ _ _)
   |(with_reducible exact spec_l3NodeOk.mono _ _ _ _ _ _ _ _)
   |(with_reducible exact spec_l3Skip.mono _ _ _)
   |(with_reducible exact LeO.refl _)
   |(with_reducible exact LeO.none _)
   |(with_reducible refine LeO.ite ?_ ?_)
   |(with_reducible refine LeO.bind ?_ (fun _=>?_))
   |exact ih0 _ _ _
   |exact ih1 _ _ _ _
   |exact ih2 _ _ _ _ _
   |exact ih3 _ _ _ _ _
   |exact ih4 _ _ _ _
   |exact ih5 _ _ _ _
   |exact spec_l3NodeOk.mono _ _ _ _ _ _ _ _
   |exact spec_l3Skip.mono _ _ _
   |exact LeO.none _
   |refine LeO.ite ?_ ?_
   |refine LeO.bind ?_ (fun _=>?_)
  ·intro y0 y1 y2 y3
   unfold spec_TreeOk.l0
   repeat' first
   |(with_reducible exact ih0 _ _ _)
   |(with_reducible exact ih1 _ _ _ _)
   |(with_reducible exact ih2 _ _ _ _ _)
   |(with_reducible exact ih3 _ _ _ _ _)
   |(with_reducible exact ih4 _ _ _ _)
   |(with_reducible exact ih5 _ _ _ _)
   |(with_reducible exact spec_l3NodeOk.mono _ _ _ _ _ _ _ _)
   |(with_reducible exact spec_l3Skip.mono _ _ _)
   |(with_reducible exact LeO.refl _)
   |(with_reducible exact LeO.none _)
   |(with_reducible refine LeO.ite ?_ ?_)
   |(with_reducible refine LeO.bind ?_ (fun _=>?_))
   |exact ih0 _ _ _
   |exact ih1 _ _ _ _
   |exact ih2 _ _ _ _ _
   |exact ih3 _ _ _ _ _
   |exact ih4 _ _ _ _
   |exact ih5 _ _ _ _
   |exact spec_l3NodeOk.mono _ _ _ _ _ _ _ _
   |exact spec_l3Skip.mono _ _ _
   |exact LeO.none _
   |refine LeO.ite ?_ ?_
   |refine LeO.bind ?_ (fun _=>?_)
  ·intro y0 y1 y2 y3 y4
   unfold spec_TreeOk.j2
   repeat' first
   |(with_reducible exact ih0 _ _ _)
   |(with_reducible exact ih1 _ _ _ _)
   |(with_reducible exact ih2 _ _ _ _ _)
   |(with_reducible exact ih3 _ _ _ _ _)
   |(with_reducible exact ih4 _ _ _ _)
   |(with_reducible exact ih5 _ _ _ _)
   |(with_reducible exact spec_l3NodeOk.mono _ _ _ _ _ _ _ _)
   |(with_reducible exact spec_l3Skip.mono _ _ _)
   |(with_reducible exact LeO.refl _)
   |(with_reducible exact LeO.none _)
   |(with_reducible refine LeO.ite ?_ ?_)
   |(with_reducible refine LeO.bind ?_ (fun _=>?_))
   |exact ih0 _ _ _
   |exact ih1 _ _ _ _
   |exact ih2 _ _ _ _ _
   |exact ih3 _ _ _ _ _
   |exact ih4 _ _ _ _
   |exact ih5 _ _ _ _
   |exact spec_l3NodeOk.mono _ _ _ _ _ _ _ _
   |exact spec_l3Skip.mono _ _ _
   |exact LeO.none _
   |refine LeO.ite ?_ ?_
   |refine LeO.bind ?_ (fun _=>?_)
  ·intro y0 y1 y2 y3 y4
   unfold spec_TreeOk.l1
   repeat' first
   |(with_reducible exact ih0 _ _ _)
   |(with_reducible exact ih1 _ _ _ _)
   |(with_reducible exact ih2 _ _ _ _ _)
   |(with_reducible exact ih3 _ _ _ _ _)
   |(with_reducible exact ih4 _ _ _ _)
   |(with_reducible exact ih5 _ _ _ _)
   |(with_reducible exact spec_l3NodeOk.mono _ _ _ _ _ _ _ _)
   |(with_reducible exact spec_l3Skip.mono _ _ _)
   |(with_reducible exact LeO.refl _)
   |(with_reducible exact LeO.none _)
   |(with_reducible refine LeO.ite ?_ ?_)
   |(with_reducible refine LeO.bind ?_ (fun _=>?_))
   |exact ih0 _ _ _
   |exact ih1 _ _ _ _
   |exact ih2 _ _ _ _ _
   |exact ih3 _ _ _ _ _
   |exact ih4 _ _ _ _
   |exact ih5 _ _ _ _
   |exact spec_l3NodeOk.mono _ _ _ _ _ _ _ _
   |exact spec_l3Skip.mono _ _ _
   |exact LeO.none _
   |refine LeO.ite ?_ ?_
   |refine LeO.bind ?_ (fun _=>?_)
  ·intro y0 y1 y2 y3
   unfold spec_TreeOk.j4
   repeat' first
   |(with_reducible exact ih0 _ _ _)
   |(with_reducible exact ih1 _ _ _ _)
   |(with_reducible exact ih2 _ _ _ _ _)
   |(with_reducible exact ih3 _ _ _ _ _)
   |(with_reducible exact ih4 _ _ _ _)
   |(with_reducible exact ih5 _ _ _ _)
   |(with_reducible exact spec_l3NodeOk.mono _ _ _ _ _ _ _ _)
   |(with_reducible exact spec_l3Skip.mono _ _ _)
   |(with_reducible exact LeO.refl _)
   |(with_reducible exact LeO.none _)
   |(with_reducible refine LeO.ite ?_ ?_)
   |(with_reducible refine LeO.bind ?_ (fun _=>?_))
   |exact ih0 _ _ _
   |exact ih1 _ _ _ _
   |exact ih2 _ _ _ _ _
   |exact ih3 _ _ _ _ _
   |exact ih4 _ _ _ _
   |exact ih5 _ _ _ _
   |exact spec_l3NodeOk.mono _ _ _ _ _ _ _ _
   |exact spec_l3Skip.mono _ _ _
   |exact LeO.none _
   |refine LeO.ite ?_ ?_
   |refine LeO.bind ?_ (fun _=>?_)
  ·intro y0 y1 y2 y3
   unfold spec_TreeOk.l2
   repeat' first
   |(with_reducible exact ih0 _ _ _)
   |(with_reducible exact ih1 _ _ _ _)
   |(with_reducible exact ih2 _ _ _ _ _)
   |(with_reducible exact ih3 _ _ _ _ _)
   |(with_reducible exact ih4 _ _ _ _)
   |(with_reducible exact ih5 _ _ _ _)
   |(with_reducible exact spec_l3NodeOk.mono _ _ _ _ _ _ _ _)
   |(with_reducible exact spec_l3Skip.mono _ _ _)
   |(with_reducible exact LeO.refl _)
   |(with_reducible exact LeO.none _)
   |(with_reducible refine LeO.ite ?_ ?_)
   |(with_reducible refine LeO.bind ?_ (fun _=>?_))
   |exact ih0 _ _ _
   |exact ih1 _ _ _ _
   |exact ih2 _ _ _ _ _
   |exact ih3 _ _ _ _ _
   |exact ih4 _ _ _ _
   |exact ih5 _ _ _ _
   |exact spec_l3NodeOk.mono _ _ _ _ _ _ _ _
   |exact spec_l3Skip.mono _ _ _
   |exact LeO.none _
   |refine LeO.ite ?_ ?_
   |refine LeO.bind ?_ (fun _=>?_)
theorem spec_TreeOk.mono:∀ a0 k,LeO (spec_TreeOk.f k a0) (spec_TreeOk.f (k+1) a0):=by
 intro a0 k
 obtain ⟨ih0,ih1,ih2,ih3,ih4,ih5⟩:=spec_TreeOk.mono_l k
 unfold spec_TreeOk.f
 repeat' first
   |(with_reducible exact ih0 _ _ _)
   |(with_reducible exact ih1 _ _ _ _)
   |(with_reducible exact ih2 _ _ _ _ _)
   |(with_reducible exact ih3 _ _ _ _ _)
   |(with_reducible exact ih4 _ _ _ _)
   |(with_reducible exact ih5 _ _ _ _)
   |(with_reducible exact spec_l3NodeOk.mono _ _ _ _ _ _ _ _)
   |(with_reducible exact spec_l3Skip.mono _ _ _)
   |(with_reducible exact LeO.refl _)
   |(with_reducible exact LeO.none _)
   |(with_reducible refine LeO.ite ?_ ?_)
   |(with_reducible refine LeO.bind ?_ (fun _=>?_))
   |exact ih0 _ _ _
   |exact ih1 _ _ _ _
   |exact ih2 _ _ _ _ _
   |exact ih3 _ _ _ _ _
   |exact ih4 _ _ _ _
   |exact ih5 _ _ _ _
   |exact spec_l3NodeOk.mono _ _ _ _ _ _ _ _
   |exact spec_l3Skip.mono _ _ _
   |exact LeO.none _
   |refine LeO.ite ?_ ?_
   |refine LeO.bind ?_ (fun _=>?_)
set_option maxHeartbeats 8000000 in
set_option maxRecDepth 100000 in
theorem spec_TreeOk.calls (k:Nat) (A0_0:Option Addr) (c0_0:Nat) (l0_0:List (S57)) (r:Bool) (w:World) (hr0_0:Kd.C k57 w A0_0 l0_0.length l0_0) (hc0_0:l0_0.length≤c0_0) (h:spec_TreeOk.f k l0_0=some r) :
  Calls Tryz.prog 13 #[.agg #[.slice A0_0 l0_0.length c0_0]] w fun e w'=>e=.returned (.bool r)∧Below w.heap.size w w':=by
 have hu29:=Tryz.underlying29
 have hu57:=Tryz.underlying57
 have HR0_0:=Aside0.mk hr0_0
 have HC0_0:=Aside0.mk hc0_0
 clear hr0_0 hc0_0
 have HB:=Aside0.mk (Below.refl w.heap.size w)
 have H:(if (l0_0.length:Int)<1 then (spec_TreeOk.j0 k (l0_0.length:Int) true l0_0) else (if (l0_0.length:Int) > 4000 then (spec_TreeOk.j0 k (l0_0.length:Int) true l0_0) else ((spec_l3Skip.f k l0_0 0).bind fun t172=>(spec_TreeOk.j0 k (l0_0.length:Int) (t172 != (l0_0.length:Int)) l0_0))))=some r:=h
 clear h
 have HC2:=Aside0.mk H
 clear H
 go_enter Tryz.func13,Tryz.ntmps13
 go_upto_region 2 with (first|((with_reducible refine gate_dst (N:=1) rfl ?_);(try (refine gate_guard (by rfl) ?_;dsimp only));refine box_event ?hg (N:=1) ?hd (cs:=#[.slice A0_0 l0_0.length c0_0]) (t:=29) ?hr ?_;(case hd=>rfl);(case hg=>rfl);(case hr=>first|(go_simp;done)|(go_simp;rfl));intro gb171 hg w3 hbox hb;have n0_:=Aside0.mk (below_step (by repeat (first|(with_reducible first|exact HB.out|apply below_alloc|apply pw_below_drewN|apply below_drew1)|exact HB.out)) hb);have n1_:=Aside0.mk (hbox);have n2_:=Aside0.mk ((by rw [hg];exact (below_size (by repeat (first|(with_reducible first|exact HB.out|apply below_alloc|apply pw_below_drewN|apply below_drew1)|exact HB.out))):w.heap.size≤gb171));have n3_:=Aside0.mk ((by rw [hg];exact (below_size (by repeat (first|(with_reducible first|exact HB.out|apply below_alloc|apply pw_below_drewN|apply below_drew1)|exact HB.out))):w.heap.size≤gb171));clear HB;have HB:=n0_;have BK171:=n1_;have GW171:=n2_;have GE171:=n3_;clear n0_ n1_ n2_ n3_;clear hb hbox hg;have hcz4_0:w3.cell? ⟨gb171,0,none⟩=some (.slice A0_0 l0_0.length c0_0):=(blk_cell BK171.out 0).trans rfl;have hfz4_0:=blk_frozen BK171.out 0))
 repeat (go_quiet (first|((with_reducible refine gate_dst (N:=1) rfl ?_);(try (refine gate_guard (by rfl) ?_;dsimp only));refine box_event ?hg (N:=1) ?hd (cs:=#[.slice A0_0 l0_0.length c0_0]) (t:=29) ?hr ?_;(case hd=>rfl);(case hg=>rfl);(case hr=>first|(go_simp;done)|(go_simp;rfl));intro gb171 hg w3 hbox hb;have n0_:=Aside0.mk (below_step (by repeat (first|(with_reducible first|exact HB.out|apply below_alloc|apply pw_below_drewN|apply below_drew1)|exact HB.out)) hb);have n1_:=Aside0.mk (hbox);have n2_:=Aside0.mk ((by rw [hg];exact (below_size (by repeat (first|(with_reducible first|exact HB.out|apply below_alloc|apply pw_below_drewN|apply below_drew1)|exact HB.out))):w.heap.size≤gb171));have n3_:=Aside0.mk ((by rw [hg];exact (below_size (by repeat (first|(with_reducible first|exact HB.out|apply below_alloc|apply pw_below_drewN|apply below_drew1)|exact HB.out))):w.heap.size≤gb171));clear HB;have HB:=n0_;have BK171:=n1_;have GW171:=n2_;have GE171:=n3_;clear n0_ n1_ n2_ n3_;clear hb hbox hg;have hcz4_0:w3.cell? ⟨gb171,0,none⟩=some (.slice A0_0 l0_0.length c0_0):=(blk_cell BK171.out 0).trans rfl;have hfz4_0:=blk_frozen BK171.out 0));go_upto_region 2 with (first|((with_reducible refine gate_dst (N:=1) rfl ?_);(try (refine gate_guard (by rfl) ?_;dsimp only));refine box_event ?hg (N:=1) ?hd (cs:=#[.slice A0_0 l0_0.length c0_0]) (t:=29) ?hr ?_;(case hd=>rfl);(case hg=>rfl);(case hr=>first|(go_simp;done)|(go_simp;rfl));intro gb171 hg w3 hbox hb;have n0_:=Aside0.mk (below_step (by repeat (first|(with_reducible first|exact HB.out|apply below_alloc|apply pw_below_drewN|apply below_drew1)|exact HB.out)) hb);have n1_:=Aside0.mk (hbox);have n2_:=Aside0.mk ((by rw [hg];exact (below_size (by repeat (first|(with_reducible first|exact HB.out|apply below_alloc|apply pw_below_drewN|apply below_drew1)|exact HB.out))):w.heap.size≤gb171));have n3_:=Aside0.mk ((by rw [hg];exact (below_size (by repeat (first|(with_reducible first|exact HB.out|apply below_alloc|apply pw_below_drewN|apply below_drew1)|exact HB.out))):w.heap.size≤gb171));clear HB;have HB:=n0_;have BK171:=n1_;have GW171:=n2_;have GE171:=n3_;clear n0_ n1_ n2_ n3_;clear hb hbox hg;have hcz4_0:w3.cell? ⟨gb171,0,none⟩=some (.slice A0_0 l0_0.length c0_0):=(blk_cell BK171.out 0).trans rfl;have hfz4_0:=blk_frozen BK171.out 0)))
 (try simp only [Act.put,List.setIfInBounds_toArray,List.set_cons_zero,List.set_cons_succ])
 go_cut [22] (fun v22 wc=>∃ (kq:Nat) (x22_1:Bool),v22=.bool x22_1∧Aside0 (spec_TreeOk.j0 kq (l0_0.length:Int) x22_1 l0_0=some r)∧Aside0 (kq≤k)∧Aside0 (wc.heap[gb171]?=some (.cells #[(.slice A0_0 l0_0.length c0_0)] 29 (0,0)))∧Aside0 (Below w.heap.size w wc))
 case first=>
  have H:=HC2.out
  clear HC2
  by_cases c5:(l0_0.length:Int)<1
  ·rw [if_pos c5] at H
   have c5b0:decide ((l0_0.length:Int)<1)=true:=decide_eq_true c5
   have c5b1:decide (l0_0.length<1)=true:=decide_eq_true (by omega)
   clear c5
   (first|rw [c5b0]|(simp only [i64_w,i32_w];rw [c5b0])|rw [c5b1]|skip)
   have H':=Aside0.mk H
   clear H
   go_wp2
   repeat (go_quiet (fail);try go_wp2)
   go_meet
   case rel=>exact ⟨_,(true),(by first|rfl|(simp;done)|(simp [*];done)),H',⟨by first|omega|exact Nat.le_refl _⟩,⟨by (with_reducible repeat (first|refine blk_drewN ?_ _|refine blk_drew ?_|refine blk_alloc ?_ _));exact BK171.out⟩,⟨by repeat (first|(with_reducible first|exact HB.out|apply below_alloc|apply pw_below_drewN|apply below_drew1|refine below_set ?_ GE171.out)|exact HB.out)⟩⟩
  ·rw [if_neg c5] at H
   have c5b0:decide ((l0_0.length:Int)<1)=false:=decide_eq_false c5
   have c5b1:decide (l0_0.length<1)=false:=decide_eq_false (by omega)
   clear c5
   (first|rw [c5b0]|(simp only [i64_w,i32_w];rw [c5b0])|rw [c5b1]|skip)
   by_cases c6:(l0_0.length:Int) > 4000
   ·rw [if_pos c6] at H
    have c6b0:decide (4000<(l0_0.length:Int))=true:=decide_eq_true c6
    have c6b1:decide (4000<l0_0.length)=true:=decide_eq_true (by omega)
    clear c6
    have H':=Aside0.mk H
    clear H
    go_wp2
    repeat (go_quiet (fail);try go_wp2)
    go_meet
    case rel=>exact ⟨_,(true),(by first|rfl|(simp;done)|(simp [*];done)),H',⟨by first|omega|exact Nat.le_refl _⟩,⟨by (with_reducible repeat (first|refine blk_drewN ?_ _|refine blk_drew ?_|refine blk_alloc ?_ _));exact BK171.out⟩,⟨by repeat (first|(with_reducible first|exact HB.out|apply below_alloc|apply pw_below_drewN|apply below_drew1|refine below_set ?_ GE171.out)|exact HB.out)⟩⟩
   ·rw [if_neg c6] at H
    have c6b0:decide (4000<(l0_0.length:Int))=false:=decide_eq_false c6
    have c6b1:decide (4000<l0_0.length)=false:=decide_eq_false (by omega)
    clear c6
    replace H:=Option.bind_eq_some_iff.mp H
    obtain ⟨t172,A70,H⟩:=H
    replace H:(spec_TreeOk.j0 k (l0_0.length:Int) (t172 != (l0_0.length:Int)) l0_0)=some r:=H
    have A7:=Aside0.mk A70
    clear A70
    have H':=Aside0.mk H
    clear H
    have hcz8_0:w3.cell? ⟨gb171,0,none⟩=some (.slice A0_0 l0_0.length c0_0):=(blk_cell BK171.out 0).trans rfl
    have hfz8_0:=blk_frozen BK171.out 0
    go_wp2_with (first|(go_at_call 23;(with_reducible refine (spec_l3Skip.calls k _ _ l0_0 0 t172 _ ?side1 ?side2 A7.out).mono ?_);(case side1=>repeat (first|exact (Kd.C_below HR0_0.out HB.out)|(with_reducible refine Kd.C_alloc ?_ _)|(with_reducible refine Kd.C_drewN ?_ _)|(with_reducible refine Kd.C_drew ?_)));(case side2=>exact HC0_0.out);rintro e w' ⟨rfl,⟨nd,rfl⟩⟩;(try first|exact ⟨rfl,_,World.drewN_drewN _ _ _⟩|exact ⟨rfl,_,Eq.trans (World.drewN_drewN _ _ _) (congrArg (World.drewN _) (Nat.add_assoc _ _ _))⟩)))
    repeat (go_quiet (first|(go_at_call 23;(with_reducible refine (spec_l3Skip.calls k _ _ l0_0 0 t172 _ ?side1 ?side2 A7.out).mono ?_);(case side1=>repeat (first|exact (Kd.C_below HR0_0.out HB.out)|(with_reducible refine Kd.C_alloc ?_ _)|(with_reducible refine Kd.C_drewN ?_ _)|(with_reducible refine Kd.C_drew ?_)));(case side2=>exact HC0_0.out);rintro e w' ⟨rfl,⟨nd,rfl⟩⟩;(try first|exact ⟨rfl,_,World.drewN_drewN _ _ _⟩|exact ⟨rfl,_,Eq.trans (World.drewN_drewN _ _ _) (congrArg (World.drewN _) (Nat.add_assoc _ _ _))⟩)));try go_wp2_with (first|(go_at_call 23;(with_reducible refine (spec_l3Skip.calls k _ _ l0_0 0 t172 _ ?side1 ?side2 A7.out).mono ?_);(case side1=>repeat (first|exact (Kd.C_below HR0_0.out HB.out)|(with_reducible refine Kd.C_alloc ?_ _)|(with_reducible refine Kd.C_drewN ?_ _)|(with_reducible refine Kd.C_drew ?_)));(case side2=>exact HC0_0.out);rintro e w' ⟨rfl,⟨nd,rfl⟩⟩;(try first|exact ⟨rfl,_,World.drewN_drewN _ _ _⟩|exact ⟨rfl,_,Eq.trans (World.drewN_drewN _ _ _) (congrArg (World.drewN _) (Nat.add_assoc _ _ _))⟩))))
    go_meet
    case rel=>exact ⟨_,((t172 != (l0_0.length:Int))),(by first|rfl|(simp;done)|(simp [*];done)),H',⟨by first|omega|exact Nat.le_refl _⟩,⟨by (with_reducible repeat (first|refine blk_drewN ?_ _|refine blk_drew ?_|refine blk_alloc ?_ _));exact BK171.out⟩,⟨by repeat (first|(with_reducible first|exact HB.out|apply below_alloc|apply pw_below_drewN|apply below_drew1|refine below_set ?_ GE171.out)|exact HB.out)⟩⟩
 case rest=>
  clear HC2
  try clear c1
  try clear p2
  try clear c5
  try clear c5b0
  try clear c5b1
  try clear c6
  try clear c6b0
  try clear c6b1
  try clear hcz4_0
  try clear hcz8_0
  try clear hfz4_0
  try clear hfz8_0
  obtain ⟨kq,x22_1,rfl,HA,HJ1,BK171,HB⟩:=hcut
  cases kq with
  |zero=>exact absurd HA.out (by simp [spec_TreeOk.j0])
  |succ kj1=>
   have H:=HA.out
   clear HA
   simp only [spec_TreeOk.j0] at H
   by_cases c9:x22_1=true
   ·subst c9
    have H1:(some false)=some r:=by rw [if_pos rfl] at H;exact H
    clear H
    have H:=H1
    clear H1
    obtain rfl:=Option.some.inj H
    go_wp2
    repeat (go_quiet (fail);try go_wp2)
    go_ret
    exact ⟨by first|rfl|(simp [errW_none,errW_some]<;>rfl)|(simp [*,errW_none,errW_some]<;>rfl),by repeat (first|(with_reducible first|exact HB.out|apply below_alloc|apply pw_below_drewN|apply below_drew1|refine below_set ?_ GE171.out)|exact HB.out)⟩
   ·replace c9:=Bool.eq_false_iff.mpr c9
    subst c9
    have H1:(spec_TreeOk.l0 kj1 (l0_0.length:Int) (([]:List Int)) 0 l0_0)=some r:=by rw [if_neg (show ¬ (false=true) by decide)] at H;exact H
    clear H
    have H:=H1
    clear H1
    obtain ⟨y173,hy173⟩:∃ y_:List Int,y_=(([]:List Int)):=⟨_,rfl⟩
    replace H:(spec_TreeOk.l0 kj1 (l0_0.length:Int) y173 0 l0_0)=some r:=by first|(rw [hy173];with_reducible exact H)|(have H2_:=(Option.bind_some _ _).symm.trans H;rw [hy173];with_reducible exact H2_)|(have H2_:=(Option.bind_some _ _).symm.trans H;with_reducible exact H2_)|with_reducible exact H|(rw [hy173];exact H)|exact H
    have Ny173:=Aside0.mk hy173
    clear hy173
    have H':=Aside0.mk H
    clear H
    go_wp2_with (first|((with_reducible refine gate_dst (N:=23) rfl ?_);(try (refine gate_guard (by rfl) ?_;dsimp only));refine Kd.R_lit (Kd.int .i64) _ 3 ?hg (N:=23) ?hd (xs:=([]:List Int)) (inner:=[]) (ok:=fun _=>True) (okp:=fun _=>True) ?hr ?hp (fun _ hk=>hk) trivial (Below.refl _ _) (Nat.le_refl _) (by simp) ?_;(case hd=>rfl);(case hg=>rfl);(case hr=>first|(go_simp;done)|(go_simp;rfl));(case hp=>exact (Reps.none _ _));intro v174 w10 ho11 hb hg_ hnew_;clear hg_ hnew_;(first|rw [← Ny173.out] at ho11|(simp only [Int.reduceToNat] at ho11;rw [← Ny173.out] at ho11));have n0_:=Aside0.mk (Kd.R_lower ho11 (below_size (by repeat (first|(with_reducible first|exact HB.out|apply below_alloc|apply pw_below_drewN|apply below_drew1|refine below_set ?_ GE171.out)|exact HB.out))));have n1_:=Aside0.mk (blk_below (g:=gb171) (o:=.cells #[.slice A0_0 l0_0.length c0_0] 29 (0,0)) (by (with_reducible repeat (first|refine blk_drewN ?_ _|refine blk_drew ?_|refine blk_alloc ?_ _));exact BK171.out) hb);have n2_:=Aside0.mk (below_step (by repeat (first|(with_reducible first|exact HB.out|apply below_alloc|apply pw_below_drewN|apply below_drew1|refine below_set ?_ GE171.out)|exact HB.out)) hb);clear BK171;clear HB;have HO175:=n0_;have BK171:=n1_;have HB:=n2_;clear n0_ n1_ n2_;clear hb ho11))
    repeat (go_quiet (first|((with_reducible refine gate_dst (N:=23) rfl ?_);(try (refine gate_guard (by rfl) ?_;dsimp only));refine Kd.R_lit (Kd.int .i64) _ 3 ?hg (N:=23) ?hd (xs:=([]:List Int)) (inner:=[]) (ok:=fun _=>True) (okp:=fun _=>True) ?hr ?hp (fun _ hk=>hk) trivial (Below.refl _ _) (Nat.le_refl _) (by simp) ?_;(case hd=>rfl);(case hg=>rfl);(case hr=>first|(go_simp;done)|(go_simp;rfl));(case hp=>exact (Reps.none _ _));intro v174 w10 ho11 hb hg_ hnew_;clear hg_ hnew_;(first|rw [← Ny173.out] at ho11|(simp only [Int.reduceToNat] at ho11;rw [← Ny173.out] at ho11));have n0_:=Aside0.mk (Kd.R_lower ho11 (below_size (by repeat (first|(with_reducible first|exact HB.out|apply below_alloc|apply pw_below_drewN|apply below_drew1|refine below_set ?_ GE171.out)|exact HB.out))));have n1_:=Aside0.mk (blk_below (g:=gb171) (o:=.cells #[.slice A0_0 l0_0.length c0_0] 29 (0,0)) (by (with_reducible repeat (first|refine blk_drewN ?_ _|refine blk_drew ?_|refine blk_alloc ?_ _));exact BK171.out) hb);have n2_:=Aside0.mk (below_step (by repeat (first|(with_reducible first|exact HB.out|apply below_alloc|apply pw_below_drewN|apply below_drew1|refine below_set ?_ GE171.out)|exact HB.out)) hb);clear BK171;clear HB;have HO175:=n0_;have BK171:=n1_;have HB:=n2_;clear n0_ n1_ n2_;clear hb ho11));try go_wp2_with (first|((with_reducible refine gate_dst (N:=23) rfl ?_);(try (refine gate_guard (by rfl) ?_;dsimp only));refine Kd.R_lit (Kd.int .i64) _ 3 ?hg (N:=23) ?hd (xs:=([]:List Int)) (inner:=[]) (ok:=fun _=>True) (okp:=fun _=>True) ?hr ?hp (fun _ hk=>hk) trivial (Below.refl _ _) (Nat.le_refl _) (by simp) ?_;(case hd=>rfl);(case hg=>rfl);(case hr=>first|(go_simp;done)|(go_simp;rfl));(case hp=>exact (Reps.none _ _));intro v174 w10 ho11 hb hg_ hnew_;clear hg_ hnew_;(first|rw [← Ny173.out] at ho11|(simp only [Int.reduceToNat] at ho11;rw [← Ny173.out] at ho11));have n0_:=Aside0.mk (Kd.R_lower ho11 (below_size (by repeat (first|(with_reducible first|exact HB.out|apply below_alloc|apply pw_below_drewN|apply below_drew1|refine below_set ?_ GE171.out)|exact HB.out))));have n1_:=Aside0.mk (blk_below (g:=gb171) (o:=.cells #[.slice A0_0 l0_0.length c0_0] 29 (0,0)) (by (with_reducible repeat (first|refine blk_drewN ?_ _|refine blk_drew ?_|refine blk_alloc ?_ _));exact BK171.out) hb);have n2_:=Aside0.mk (below_step (by repeat (first|(with_reducible first|exact HB.out|apply below_alloc|apply pw_below_drewN|apply below_drew1|refine below_set ?_ GE171.out)|exact HB.out)) hb);clear BK171;clear HB;have HO175:=n0_;have BK171:=n1_;have HB:=n2_;clear n0_ n1_ n2_;clear hb ho11)))
    go_loopg [4,5] kj1 (fun kq v4 v5 w'=>∃ (x4_2:List Int) (x5_2:Int),v5=.int .i64 x5_2∧Aside0 (spec_TreeOk.l0 kq (l0_0.length:Int) x4_2 x5_2 l0_0=some r)∧Aside0 (kq≤kj1)∧Aside0 (Kd.R (Kd.int .i64) 3 w' w.heap.size (fun _=>True) v4 x4_2)∧Aside0 (w'.heap[gb171]?=some (.cells #[(.slice A0_0 l0_0.length c0_0)] 29 (0,0)))∧Aside0 (Below w.heap.size w w'))
    case atStart=>exact ⟨(y173),(0),(by first|rfl|(simp;done)|(simp [*];done)),H',⟨Nat.le_refl _⟩,⟨by (with_reducible repeat (first|apply Kd.R_alloc|apply Kd.R_drewN|apply Kd.R_drew));exact HO175.out⟩,⟨by (with_reducible repeat (first|refine blk_drewN ?_ _|refine blk_drew ?_|refine blk_alloc ?_ _));exact BK171.out⟩,⟨by repeat (first|(with_reducible first|exact HB.out|apply below_alloc|apply pw_below_drewN|apply below_drew1|refine below_set ?_ GE171.out)|exact HB.out)⟩⟩
    case round=>
     clear H'
     try clear c1
     try clear p2
     try clear c5
     try clear c5b0
     try clear c5b1
     try clear c6
     try clear c6b0
     try clear c6b1
     try clear c9
     try clear hcz4_0
     try clear hcz8_0
     try clear hfz4_0
     try clear hfz8_0
     try clear p2
     obtain ⟨x4_2,x5_2,rfl,HA,HK2,HO_4,BK171,HB⟩:=hrel
     cases gk with
     |zero=>exact absurd HA.out (by simp [spec_TreeOk.l0])
     |succ k2=>
      have H:=HA.out
      clear HA
      simp only [spec_TreeOk.l0] at H
      by_cases c12:x5_2<(l0_0.length:Int)
      ·rw [if_pos c12] at H
       have c12b0:decide (x5_2<(l0_0.length:Int))=true:=decide_eq_true c12
       clear c12
       have HC13:=Aside0.mk H
       clear H
       go_upto_region 8 with (fail)
       repeat (go_quiet (fail);go_upto_region 8 with (fail))
       go_cut [42] (fun v42 wc=>∃ (kq:Nat) (x42_12:Bool),v42=.bool x42_12∧Aside0 (spec_TreeOk.j2 kq (l0_0.length:Int) x4_2 x5_2 x42_12 l0_0=some r)∧Aside0 (kq≤k2)∧Aside0 (Kd.R (Kd.int .i64) 3 wc w.heap.size (fun _=>True) u4 x4_2)∧Aside0 (wc.heap[gb171]?=some (.cells #[(.slice A0_0 l0_0.length c0_0)] 29 (0,0)))∧Aside0 (Below w.heap.size w wc))
       case first=>
        have H:=HC13.out
        clear HC13
        by_cases c14:0≤x5_2
        ·rw [if_pos c14] at H
         have c14b0:decide (0≤x5_2)=true:=decide_eq_true c14
         clear c14
         (first|rw [c14b0]|(simp only [i64_w,i32_w];rw [c14b0])|rw [c14b1]|skip)
         by_cases c15:x5_2<(l0_0.length:Int)
         ·rw [if_pos c15] at H
          have c15b0:decide (x5_2<(l0_0.length:Int))=true:=decide_eq_true c15
          clear c15
          replace H:=Option.bind_eq_some_iff.mp H
          obtain ⟨t177,A160,H⟩:=H
          replace H:(if t177=true then (spec_TreeOk.j2 k2 (l0_0.length:Int) x4_2 x5_2 (decide ((x4_2.length:Int) > 400)) l0_0) else (spec_TreeOk.j2 k2 (l0_0.length:Int) x4_2 x5_2 true l0_0))=some r:=H
          have A16:=Aside0.mk A160
          clear A160
          by_cases c17:t177=true
          ·subst c17
           have H1:(spec_TreeOk.j2 k2 (l0_0.length:Int) x4_2 x5_2 (decide ((x4_2.length:Int) > 400)) l0_0)=some r:=by rw [if_pos rfl] at H;exact H
           clear H
           have H:=H1
           clear H1
           have H':=Aside0.mk H
           clear H
           have hcz18_0:wr.cell? ⟨gb171,0,none⟩=some (.slice A0_0 l0_0.length c0_0):=(blk_cell BK171.out 0).trans rfl
           have hfz18_0:=blk_frozen BK171.out 0
           have p176:0≤(x5_2:Int):=of_decide_eq_true (by first|(with_reducible assumption)|assumption)
           have q176:x5_2<(l0_0.length:Int):=of_decide_eq_true (by first|(with_reducible assumption)|assumption)
           obtain ⟨ad176,A176_3,c176_3,e176,hx176_0,hx176_1,hx176_2,hx176_3,hx176_4,hx176_5,hl176_3,hi176_3⟩:=at_T57 HR0_0.out x5_2 p176 q176
           cases e176
           replace hx176_0:=(HB.out.cell (World.block_lt_of_cell? w _ hx176_0)).trans hx176_0
           replace hx176_1:=(HB.out.cell (World.block_lt_of_cell? w _ hx176_1)).trans hx176_1
           replace hx176_2:=(HB.out.cell (World.block_lt_of_cell? w _ hx176_2)).trans hx176_2
           replace hx176_3:=(HB.out.cell (World.block_lt_of_cell? w _ hx176_3)).trans hx176_3
           replace hx176_4:=(HB.out.cell (World.block_lt_of_cell? w _ hx176_4)).trans hx176_4
           replace hx176_5:=(HB.out.cell (World.block_lt_of_cell? w _ hx176_5)).trans hx176_5
           have HR176_3:=Aside0.mk hi176_3
           have HC176_3:=Aside0.mk hl176_3
           clear hi176_3 hl176_3
           replace p176:=eq_true p176
           replace q176:=eq_true q176
           go_wp2_with (first|(go_at_call 24;(with_reducible refine (spec_l3NodeOk.calls k2 ((rd_T57 l0_0 x5_2).f0) ((rd_T57 l0_0 x5_2).f1) ((rd_T57 l0_0 x5_2).f2) _ _ ((rd_T57 l0_0 x5_2).f3) ((rd_T57 l0_0 x5_2).f4) ((rd_T57 l0_0 x5_2).f5) (x5_2==0) true _ ?side1 ?side2 A16.out).mono ?_);(case side1=>repeat (first|exact (Kd.C_below HR176_3.out HB.out)|(with_reducible refine Kd.C_alloc ?_ _)|(with_reducible refine Kd.C_drewN ?_ _)|(with_reducible refine Kd.C_drew ?_)));(case side2=>exact HC176_3.out);rintro e w19 ⟨rfl,hb⟩;have n0_:=Aside0.mk (Kd.R_below (by (with_reducible repeat (first|apply Kd.R_alloc|apply Kd.R_drewN|apply Kd.R_drew));exact HO_4.out) hb);have n1_:=Aside0.mk (blk_below (g:=gb171) (o:=.cells #[.slice (some ad176) l0_0.length c0_0] 29 (0,0)) (by (with_reducible repeat (first|refine blk_drewN ?_ _|refine blk_drew ?_|refine blk_alloc ?_ _));exact BK171.out) hb);have n2_:=Aside0.mk (below_step (by repeat (first|(with_reducible first|exact HB.out|apply below_alloc|apply pw_below_drewN|apply below_drew1|refine below_set ?_ GE171.out)|exact HB.out)) hb);clear HO_4;clear BK171;clear HB;have HO_4:=n0_;have BK171:=n1_;have HB:=n2_;clear n0_ n1_ n2_;(try clear hb);(try clear hb2);(try clear hk);(try clear hi);obtain ⟨Ao20,co20,eo20⟩:=Kd.R_slice HO_4.out;subst eo20))
           repeat (go_quiet (first|(go_at_call 24;(with_reducible refine (spec_l3NodeOk.calls k2 ((rd_T57 l0_0 x5_2).f0) ((rd_T57 l0_0 x5_2).f1) ((rd_T57 l0_0 x5_2).f2) _ _ ((rd_T57 l0_0 x5_2).f3) ((rd_T57 l0_0 x5_2).f4) ((rd_T57 l0_0 x5_2).f5) (x5_2==0) true _ ?side1 ?side2 A16.out).mono ?_);(case side1=>repeat (first|exact (Kd.C_below HR176_3.out HB.out)|(with_reducible refine Kd.C_alloc ?_ _)|(with_reducible refine Kd.C_drewN ?_ _)|(with_reducible refine Kd.C_drew ?_)));(case side2=>exact HC176_3.out);rintro e w19 ⟨rfl,hb⟩;have n0_:=Aside0.mk (Kd.R_below (by (with_reducible repeat (first|apply Kd.R_alloc|apply Kd.R_drewN|apply Kd.R_drew));exact HO_4.out) hb);have n1_:=Aside0.mk (blk_below (g:=gb171) (o:=.cells #[.slice (some ad176) l0_0.length c0_0] 29 (0,0)) (by (with_reducible repeat (first|refine blk_drewN ?_ _|refine blk_drew ?_|refine blk_alloc ?_ _));exact BK171.out) hb);have n2_:=Aside0.mk (below_step (by repeat (first|(with_reducible first|exact HB.out|apply below_alloc|apply pw_below_drewN|apply below_drew1|refine below_set ?_ GE171.out)|exact HB.out)) hb);clear HO_4;clear BK171;clear HB;have HO_4:=n0_;have BK171:=n1_;have HB:=n2_;clear n0_ n1_ n2_;(try clear hb);(try clear hb2);(try clear hk);(try clear hi);obtain ⟨Ao20,co20,eo20⟩:=Kd.R_slice HO_4.out;subst eo20));try go_wp2_with (first|(go_at_call 24;(with_reducible refine (spec_l3NodeOk.calls k2 ((rd_T57 l0_0 x5_2).f0) ((rd_T57 l0_0 x5_2).f1) ((rd_T57 l0_0 x5_2).f2) _ _ ((rd_T57 l0_0 x5_2).f3) ((rd_T57 l0_0 x5_2).f4) ((rd_T57 l0_0 x5_2).f5) (x5_2==0) true _ ?side1 ?side2 A16.out).mono ?_);(case side1=>repeat (first|exact (Kd.C_below HR176_3.out HB.out)|(with_reducible refine Kd.C_alloc ?_ _)|(with_reducible refine Kd.C_drewN ?_ _)|(with_reducible refine Kd.C_drew ?_)));(case side2=>exact HC176_3.out);rintro e w19 ⟨rfl,hb⟩;have n0_:=Aside0.mk (Kd.R_below (by (with_reducible repeat (first|apply Kd.R_alloc|apply Kd.R_drewN|apply Kd.R_drew));exact HO_4.out) hb);have n1_:=Aside0.mk (blk_below (g:=gb171) (o:=.cells #[.slice (some ad176) l0_0.length c0_0] 29 (0,0)) (by (with_reducible repeat (first|refine blk_drewN ?_ _|refine blk_drew ?_|refine blk_alloc ?_ _));exact BK171.out) hb);have n2_:=Aside0.mk (below_step (by repeat (first|(with_reducible first|exact HB.out|apply below_alloc|apply pw_below_drewN|apply below_drew1|refine below_set ?_ GE171.out)|exact HB.out)) hb);clear HO_4;clear BK171;clear HB;have HO_4:=n0_;have BK171:=n1_;have HB:=n2_;clear n0_ n1_ n2_;(try clear hb);(try clear hb2);(try clear hk);(try clear hi);obtain ⟨Ao20,co20,eo20⟩:=Kd.R_slice HO_4.out;subst eo20)))
           go_meet
           case rel=>exact ⟨_,(decide ((x4_2.length:Int) > 400)),(by first|rfl|(simp;done)|(simp [*];done)),H',⟨by have:=HJ1.out;have:=HK2.out;first|omega|exact Nat.le_refl _⟩,⟨by (with_reducible repeat (first|apply Kd.R_alloc|apply Kd.R_drewN|apply Kd.R_drew));exact HO_4.out⟩,⟨by (with_reducible repeat (first|refine blk_drewN ?_ _|refine blk_drew ?_|refine blk_alloc ?_ _));exact BK171.out⟩,⟨by repeat (first|(with_reducible first|exact HB.out|apply below_alloc|apply pw_below_drewN|apply below_drew1|refine below_set ?_ GE171.out)|exact HB.out)⟩⟩
          ·replace c17:=Bool.eq_false_iff.mpr c17
           subst c17
           have H1:(spec_TreeOk.j2 k2 (l0_0.length:Int) x4_2 x5_2 true l0_0)=some r:=by rw [if_neg (show ¬ (false=true) by decide)] at H;exact H
           clear H
           have H:=H1
           clear H1
           have H':=Aside0.mk H
           clear H
           have hcz21_0:wr.cell? ⟨gb171,0,none⟩=some (.slice A0_0 l0_0.length c0_0):=(blk_cell BK171.out 0).trans rfl
           have hfz21_0:=blk_frozen BK171.out 0
           have p176:0≤(x5_2:Int):=of_decide_eq_true (by first|(with_reducible assumption)|assumption)
           have q176:x5_2<(l0_0.length:Int):=of_decide_eq_true (by first|(with_reducible assumption)|assumption)
           obtain ⟨ad176,A176_3,c176_3,e176,hx176_0,hx176_1,hx176_2,hx176_3,hx176_4,hx176_5,hl176_3,hi176_3⟩:=at_T57 HR0_0.out x5_2 p176 q176
           cases e176
           replace hx176_0:=(HB.out.cell (World.block_lt_of_cell? w _ hx176_0)).trans hx176_0
           replace hx176_1:=(HB.out.cell (World.block_lt_of_cell? w _ hx176_1)).trans hx176_1
           replace hx176_2:=(HB.out.cell (World.block_lt_of_cell? w _ hx176_2)).trans hx176_2
           replace hx176_3:=(HB.out.cell (World.block_lt_of_cell? w _ hx176_3)).trans hx176_3
           replace hx176_4:=(HB.out.cell (World.block_lt_of_cell? w _ hx176_4)).trans hx176_4
           replace hx176_5:=(HB.out.cell (World.block_lt_of_cell? w _ hx176_5)).trans hx176_5
           have HR176_3:=Aside0.mk hi176_3
           have HC176_3:=Aside0.mk hl176_3
           clear hi176_3 hl176_3
           replace p176:=eq_true p176
           replace q176:=eq_true q176
           go_wp2_with (first|(go_at_call 24;(with_reducible refine (spec_l3NodeOk.calls k2 ((rd_T57 l0_0 x5_2).f0) ((rd_T57 l0_0 x5_2).f1) ((rd_T57 l0_0 x5_2).f2) _ _ ((rd_T57 l0_0 x5_2).f3) ((rd_T57 l0_0 x5_2).f4) ((rd_T57 l0_0 x5_2).f5) (x5_2==0) false _ ?side1 ?side2 A16.out).mono ?_);(case side1=>repeat (first|exact (Kd.C_below HR176_3.out HB.out)|(with_reducible refine Kd.C_alloc ?_ _)|(with_reducible refine Kd.C_drewN ?_ _)|(with_reducible refine Kd.C_drew ?_)));(case side2=>exact HC176_3.out);rintro e w22 ⟨rfl,hb⟩;have n0_:=Aside0.mk (Kd.R_below (by (with_reducible repeat (first|apply Kd.R_alloc|apply Kd.R_drewN|apply Kd.R_drew));exact HO_4.out) hb);have n1_:=Aside0.mk (blk_below (g:=gb171) (o:=.cells #[.slice (some ad176) l0_0.length c0_0] 29 (0,0)) (by (with_reducible repeat (first|refine blk_drewN ?_ _|refine blk_drew ?_|refine blk_alloc ?_ _));exact BK171.out) hb);have n2_:=Aside0.mk (below_step (by repeat (first|(with_reducible first|exact HB.out|apply below_alloc|apply pw_below_drewN|apply below_drew1|refine below_set ?_ GE171.out)|exact HB.out)) hb);clear HO_4;clear BK171;clear HB;have HO_4:=n0_;have BK171:=n1_;have HB:=n2_;clear n0_ n1_ n2_;(try clear hb);(try clear hb2);(try clear hk);(try clear hi)))
           repeat (go_quiet (first|(go_at_call 24;(with_reducible refine (spec_l3NodeOk.calls k2 ((rd_T57 l0_0 x5_2).f0) ((rd_T57 l0_0 x5_2).f1) ((rd_T57 l0_0 x5_2).f2) _ _ ((rd_T57 l0_0 x5_2).f3) ((rd_T57 l0_0 x5_2).f4) ((rd_T57 l0_0 x5_2).f5) (x5_2==0) false _ ?side1 ?side2 A16.out).mono ?_);(case side1=>repeat (first|exact (Kd.C_below HR176_3.out HB.out)|(with_reducible refine Kd.C_alloc ?_ _)|(with_reducible refine Kd.C_drewN ?_ _)|(with_reducible refine Kd.C_drew ?_)));(case side2=>exact HC176_3.out);rintro e w22 ⟨rfl,hb⟩;have n0_:=Aside0.mk (Kd.R_below (by (with_reducible repeat (first|apply Kd.R_alloc|apply Kd.R_drewN|apply Kd.R_drew));exact HO_4.out) hb);have n1_:=Aside0.mk (blk_below (g:=gb171) (o:=.cells #[.slice (some ad176) l0_0.length c0_0] 29 (0,0)) (by (with_reducible repeat (first|refine blk_drewN ?_ _|refine blk_drew ?_|refine blk_alloc ?_ _));exact BK171.out) hb);have n2_:=Aside0.mk (below_step (by repeat (first|(with_reducible first|exact HB.out|apply below_alloc|apply pw_below_drewN|apply below_drew1|refine below_set ?_ GE171.out)|exact HB.out)) hb);clear HO_4;clear BK171;clear HB;have HO_4:=n0_;have BK171:=n1_;have HB:=n2_;clear n0_ n1_ n2_;(try clear hb);(try clear hb2);(try clear hk);(try clear hi)));try go_wp2_with (first|(go_at_call 24;(with_reducible refine (spec_l3NodeOk.calls k2 ((rd_T57 l0_0 x5_2).f0) ((rd_T57 l0_0 x5_2).f1) ((rd_T57 l0_0 x5_2).f2) _ _ ((rd_T57 l0_0 x5_2).f3) ((rd_T57 l0_0 x5_2).f4) ((rd_T57 l0_0 x5_2).f5) (x5_2==0) false _ ?side1 ?side2 A16.out).mono ?_);(case side1=>repeat (first|exact (Kd.C_below HR176_3.out HB.out)|(with_reducible refine Kd.C_alloc ?_ _)|(with_reducible refine Kd.C_drewN ?_ _)|(with_reducible refine Kd.C_drew ?_)));(case side2=>exact HC176_3.out);rintro e w22 ⟨rfl,hb⟩;have n0_:=Aside0.mk (Kd.R_below (by (with_reducible repeat (first|apply Kd.R_alloc|apply Kd.R_drewN|apply Kd.R_drew));exact HO_4.out) hb);have n1_:=Aside0.mk (blk_below (g:=gb171) (o:=.cells #[.slice (some ad176) l0_0.length c0_0] 29 (0,0)) (by (with_reducible repeat (first|refine blk_drewN ?_ _|refine blk_drew ?_|refine blk_alloc ?_ _));exact BK171.out) hb);have n2_:=Aside0.mk (below_step (by repeat (first|(with_reducible first|exact HB.out|apply below_alloc|apply pw_below_drewN|apply below_drew1|refine below_set ?_ GE171.out)|exact HB.out)) hb);clear HO_4;clear BK171;clear HB;have HO_4:=n0_;have BK171:=n1_;have HB:=n2_;clear n0_ n1_ n2_;(try clear hb);(try clear hb2);(try clear hk);(try clear hi))))
           go_meet
           case rel=>exact ⟨_,(true),(by first|rfl|(simp;done)|(simp [*];done)),H',⟨by have:=HJ1.out;have:=HK2.out;first|omega|exact Nat.le_refl _⟩,⟨by (with_reducible repeat (first|apply Kd.R_alloc|apply Kd.R_drewN|apply Kd.R_drew));exact HO_4.out⟩,⟨by (with_reducible repeat (first|refine blk_drewN ?_ _|refine blk_drew ?_|refine blk_alloc ?_ _));exact BK171.out⟩,⟨by repeat (first|(with_reducible first|exact HB.out|apply below_alloc|apply pw_below_drewN|apply below_drew1|refine below_set ?_ GE171.out)|exact HB.out)⟩⟩
         ·rw [if_neg c15] at H
          exact absurd H (by simp)
        ·rw [if_neg c14] at H
         exact absurd H (by simp)
       case rest=>
        clear HC13
        try clear c1
        try clear p1
        try clear q1
        try clear hx1
        try clear p2
        try clear c5
        try clear c5b0
        try clear c5b1
        try clear c6
        try clear c6b0
        try clear c6b1
        try clear c9
        try clear c12
        try clear c12b0
        try clear c13
        try clear c14
        try clear c14b0
        try clear c15
        try clear c15b0
        try clear c17
        try clear p17
        try clear q17
        try clear hx17
        try clear hcz18_0
        try clear hcz21_0
        try clear hcz4_0
        try clear hcz8_0
        try clear hfz18_0
        try clear hfz21_0
        try clear hfz4_0
        try clear hfz8_0
        try clear hx176_0
        try clear hx176_1
        try clear hx176_2
        try clear hx176_3
        try clear hx176_4
        try clear hx176_5
        try clear p176
        try clear p2
        try clear q176
        obtain ⟨kq,x42_12,rfl,HA,HJ12,HO_4,BK171,HB⟩:=hcut
        cases kq with
        |zero=>exact absurd HA.out (by simp [spec_TreeOk.j2])
        |succ kj12=>
         have H:=HA.out
         clear HA
         simp only [spec_TreeOk.j2] at H
         by_cases c23:x42_12=true
         ·subst c23
          have H1:(some false)=some r:=by rw [if_pos rfl] at H;exact H
          clear H
          have H:=H1
          clear H1
          obtain rfl:=Option.some.inj H
          go_wp2
          repeat (go_quiet (fail);try go_wp2)
          go_ret
          exact ⟨by first|rfl|(simp [errW_none,errW_some]<;>rfl)|(simp [*,errW_none,errW_some]<;>rfl),by repeat (first|(with_reducible first|exact HB.out|apply below_alloc|apply pw_below_drewN|apply below_drew1|refine below_set ?_ GE171.out)|exact HB.out)⟩
         ·replace c23:=Bool.eq_false_iff.mpr c23
          subst c23
          have H1:(spec_TreeOk.l1 kj12 (l0_0.length:Int) x4_2 x5_2 0 l0_0)=some r:=by rw [if_neg (show ¬ (false=true) by decide)] at H;exact H
          clear H
          have H:=H1
          clear H1
          have H':=Aside0.mk H
          clear H
          go_wp2
          repeat (go_quiet (fail);try go_wp2)
          go_loopg [6] kj12 (fun kq v6 w'=>∃ (x6_4:Int),v6=.int .i64 x6_4∧Aside0 (spec_TreeOk.l1 kq (l0_0.length:Int) x4_2 x5_2 x6_4 l0_0=some r)∧Aside0 (kq≤kj12)∧Aside0 (Kd.R (Kd.int .i64) 3 w' w.heap.size (fun _=>True) u4 x4_2)∧Aside0 (w'.heap[gb171]?=some (.cells #[(.slice A0_0 l0_0.length c0_0)] 29 (0,0)))∧Aside0 (Below w.heap.size w w'))
          case atStart=>exact ⟨(0),(by first|rfl|(simp;done)|(simp [*];done)),H',⟨Nat.le_refl _⟩,⟨by (with_reducible repeat (first|apply Kd.R_alloc|apply Kd.R_drewN|apply Kd.R_drew));exact HO_4.out⟩,⟨by (with_reducible repeat (first|refine blk_drewN ?_ _|refine blk_drew ?_|refine blk_alloc ?_ _));exact BK171.out⟩,⟨by repeat (first|(with_reducible first|exact HB.out|apply below_alloc|apply pw_below_drewN|apply below_drew1|refine below_set ?_ GE171.out)|exact HB.out)⟩⟩
          case round=>
           clear H'
           try clear c1
           try clear p1
           try clear q1
           try clear hx1
           try clear c2
           try clear p2
           try clear c5
           try clear c5b0
           try clear c5b1
           try clear c6
           try clear c6b0
           try clear c6b1
           try clear c9
           try clear c12
           try clear c12b0
           try clear c13
           try clear c14
           try clear c14b0
           try clear c15
           try clear c15b0
           try clear c17
           try clear p17
           try clear q17
           try clear hx17
           try clear c23
           try clear hcz18_0
           try clear hcz21_0
           try clear hcz4_0
           try clear hcz8_0
           try clear hfz18_0
           try clear hfz21_0
           try clear hfz4_0
           try clear hfz8_0
           try clear hx176_0
           try clear hx176_1
           try clear hx176_2
           try clear hx176_3
           try clear hx176_4
           try clear hx176_5
           try clear p1
           try clear p17
           try clear p176
           try clear p2
           try clear q1
           try clear q17
           try clear q176
           obtain ⟨x6_4,rfl,HA,HK4,HO_4,BK171,HB⟩:=hrel
           cases gk with
           |zero=>exact absurd HA.out (by simp [spec_TreeOk.l1])
           |succ k4=>
            have H:=HA.out
            clear HA
            simp only [spec_TreeOk.l1] at H
            by_cases c24:x6_4<x5_2
            ·rw [if_pos c24] at H
             have c24b0:decide (x6_4<x5_2)=true:=decide_eq_true c24
             clear c24
             by_cases c25:0≤x6_4
             ·rw [if_pos c25] at H
              have c25b0:decide (0≤x6_4)=true:=decide_eq_true c25
              clear c25
              by_cases c26:x6_4<(l0_0.length:Int)
              ·rw [if_pos c26] at H
               have c26b0:decide (x6_4<(l0_0.length:Int))=true:=decide_eq_true c26
               clear c26
               by_cases c27:0≤x5_2
               ·rw [if_pos c27] at H
                have c27b0:decide (0≤x5_2)=true:=decide_eq_true c27
                clear c27
                by_cases c28:x5_2<(l0_0.length:Int)
                ·rw [if_pos c28] at H
                 have c28b0:decide (x5_2<(l0_0.length:Int))=true:=decide_eq_true c28
                 clear c28
                 by_cases c29:((rd_T57 l0_0 x6_4).f0)=((rd_T57 l0_0 x5_2).f0)
                 ·rw [if_pos c29] at H
                  have c29b0:(((rd_T57 l0_0 x6_4).f0)==((rd_T57 l0_0 x5_2).f0))=true:=beq_iff_eq.mpr c29
                  have c29b1:(((rd_T57 l0_0 x6_4).f0) != ((rd_T57 l0_0 x5_2).f0))=false:=bne_eq_false_iff_eq.mpr c29
                  clear c29
                  obtain rfl:=Option.some.inj H
                  have hcz30_0:wr.cell? ⟨gb171,0,none⟩=some (.slice A0_0 l0_0.length c0_0):=(blk_cell BK171.out 0).trans rfl
                  have hfz30_0:=blk_frozen BK171.out 0
                  have p178:0≤(x6_4:Int):=of_decide_eq_true (by first|(with_reducible assumption)|assumption)
                  have q178:x6_4<(l0_0.length:Int):=of_decide_eq_true (by first|(with_reducible assumption)|assumption)
                  obtain ⟨ad178,A178_3,c178_3,e178,hx178_0,hx178_1,hx178_2,hx178_3,hx178_4,hx178_5,hl178_3,hi178_3⟩:=at_T57 HR0_0.out x6_4 p178 q178
                  cases e178
                  replace hx178_0:=(HB.out.cell (World.block_lt_of_cell? w _ hx178_0)).trans hx178_0
                  replace hx178_1:=(HB.out.cell (World.block_lt_of_cell? w _ hx178_1)).trans hx178_1
                  replace hx178_2:=(HB.out.cell (World.block_lt_of_cell? w _ hx178_2)).trans hx178_2
                  replace hx178_3:=(HB.out.cell (World.block_lt_of_cell? w _ hx178_3)).trans hx178_3
                  replace hx178_4:=(HB.out.cell (World.block_lt_of_cell? w _ hx178_4)).trans hx178_4
                  replace hx178_5:=(HB.out.cell (World.block_lt_of_cell? w _ hx178_5)).trans hx178_5
                  have HR178_3:=Aside0.mk hi178_3
                  have HC178_3:=Aside0.mk hl178_3
                  clear hi178_3 hl178_3
                  replace p178:=eq_true p178
                  replace q178:=eq_true q178
                  have p179:0≤(x5_2:Int):=of_decide_eq_true (by first|(with_reducible assumption)|assumption)
                  have q179:x5_2<(l0_0.length:Int):=of_decide_eq_true (by first|(with_reducible assumption)|assumption)
                  obtain ⟨ad179,A179_3,c179_3,e179,hx179_0,hx179_1,hx179_2,hx179_3,hx179_4,hx179_5,hl179_3,hi179_3⟩:=at_T57 HR0_0.out x5_2 p179 q179
                  obtain rfl:ad178=ad179:=(by injection e179)
                  replace hx179_0:=(HB.out.cell (World.block_lt_of_cell? w _ hx179_0)).trans hx179_0
                  replace hx179_1:=(HB.out.cell (World.block_lt_of_cell? w _ hx179_1)).trans hx179_1
                  replace hx179_2:=(HB.out.cell (World.block_lt_of_cell? w _ hx179_2)).trans hx179_2
                  replace hx179_3:=(HB.out.cell (World.block_lt_of_cell? w _ hx179_3)).trans hx179_3
                  replace hx179_4:=(HB.out.cell (World.block_lt_of_cell? w _ hx179_4)).trans hx179_4
                  replace hx179_5:=(HB.out.cell (World.block_lt_of_cell? w _ hx179_5)).trans hx179_5
                  have HR179_3:=Aside0.mk hi179_3
                  have HC179_3:=Aside0.mk hl179_3
                  clear hi179_3 hl179_3
                  replace p179:=eq_true p179
                  replace q179:=eq_true q179
                  go_wp2
                  repeat (go_quiet (fail);try go_wp2)
                  go_ret
                  exact ⟨by first|rfl|(simp [errW_none,errW_some]<;>rfl)|(simp [*,errW_none,errW_some]<;>rfl),by repeat (first|(with_reducible first|exact HB.out|apply below_alloc|apply pw_below_drewN|apply below_drew1|refine below_set ?_ GE171.out)|exact HB.out)⟩
                 ·rw [if_neg c29] at H
                  have c29b0:(((rd_T57 l0_0 x6_4).f0)==((rd_T57 l0_0 x5_2).f0))=false:=beq_eq_false_iff_ne.mpr c29
                  have c29b1:(((rd_T57 l0_0 x6_4).f0) != ((rd_T57 l0_0 x5_2).f0))=true:=bne_iff_ne.mpr c29
                  have H':=Aside0.mk H
                  clear H
                  have hcz31_0:wr.cell? ⟨gb171,0,none⟩=some (.slice A0_0 l0_0.length c0_0):=(blk_cell BK171.out 0).trans rfl
                  have hfz31_0:=blk_frozen BK171.out 0
                  have p178:0≤(x6_4:Int):=of_decide_eq_true (by first|(with_reducible assumption)|assumption)
                  have q178:x6_4<(l0_0.length:Int):=of_decide_eq_true (by first|(with_reducible assumption)|assumption)
                  obtain ⟨ad178,A178_3,c178_3,e178,hx178_0,hx178_1,hx178_2,hx178_3,hx178_4,hx178_5,hl178_3,hi178_3⟩:=at_T57 HR0_0.out x6_4 p178 q178
                  cases e178
                  replace hx178_0:=(HB.out.cell (World.block_lt_of_cell? w _ hx178_0)).trans hx178_0
                  replace hx178_1:=(HB.out.cell (World.block_lt_of_cell? w _ hx178_1)).trans hx178_1
                  replace hx178_2:=(HB.out.cell (World.block_lt_of_cell? w _ hx178_2)).trans hx178_2
                  replace hx178_3:=(HB.out.cell (World.block_lt_of_cell? w _ hx178_3)).trans hx178_3
                  replace hx178_4:=(HB.out.cell (World.block_lt_of_cell? w _ hx178_4)).trans hx178_4
                  replace hx178_5:=(HB.out.cell (World.block_lt_of_cell? w _ hx178_5)).trans hx178_5
                  have HR178_3:=Aside0.mk hi178_3
                  have HC178_3:=Aside0.mk hl178_3
                  clear hi178_3 hl178_3
                  replace p178:=eq_true p178
                  replace q178:=eq_true q178
                  have p179:0≤(x5_2:Int):=of_decide_eq_true (by first|(with_reducible assumption)|assumption)
                  have q179:x5_2<(l0_0.length:Int):=of_decide_eq_true (by first|(with_reducible assumption)|assumption)
                  obtain ⟨ad179,A179_3,c179_3,e179,hx179_0,hx179_1,hx179_2,hx179_3,hx179_4,hx179_5,hl179_3,hi179_3⟩:=at_T57 HR0_0.out x5_2 p179 q179
                  obtain rfl:ad178=ad179:=(by injection e179)
                  replace hx179_0:=(HB.out.cell (World.block_lt_of_cell? w _ hx179_0)).trans hx179_0
                  replace hx179_1:=(HB.out.cell (World.block_lt_of_cell? w _ hx179_1)).trans hx179_1
                  replace hx179_2:=(HB.out.cell (World.block_lt_of_cell? w _ hx179_2)).trans hx179_2
                  replace hx179_3:=(HB.out.cell (World.block_lt_of_cell? w _ hx179_3)).trans hx179_3
                  replace hx179_4:=(HB.out.cell (World.block_lt_of_cell? w _ hx179_4)).trans hx179_4
                  replace hx179_5:=(HB.out.cell (World.block_lt_of_cell? w _ hx179_5)).trans hx179_5
                  have HR179_3:=Aside0.mk hi179_3
                  have HC179_3:=Aside0.mk hl179_3
                  clear hi179_3 hl179_3
                  replace p179:=eq_true p179
                  replace q179:=eq_true q179
                  go_wp2
                  repeat (go_quiet (fail);try go_wp2)
                  go_roundg k4
                  case measure=>have:=HJ1.out;have:=HK2.out;have:=HJ12.out;have:=HK4.out;omega
                  case rel=>exact ⟨(wrap64 (x6_4+1)),(by first|rfl|(simp;done)|(simp [*];done)),H',⟨by have:=HJ1.out;have:=HK2.out;have:=HJ12.out;have:=HK4.out;omega⟩,⟨by (with_reducible repeat (first|apply Kd.R_alloc|apply Kd.R_drewN|apply Kd.R_drew));exact HO_4.out⟩,⟨by (with_reducible repeat (first|refine blk_drewN ?_ _|refine blk_drew ?_|refine blk_alloc ?_ _));exact BK171.out⟩,⟨by repeat (first|(with_reducible first|exact HB.out|apply below_alloc|apply pw_below_drewN|apply below_drew1|refine below_set ?_ GE171.out)|exact HB.out)⟩⟩
                ·rw [if_neg c28] at H
                 exact absurd H (by simp)
               ·rw [if_neg c27] at H
                exact absurd H (by simp)
              ·rw [if_neg c26] at H
               exact absurd H (by simp)
             ·rw [if_neg c25] at H
              exact absurd H (by simp)
            ·rw [if_neg c24] at H
             have c24b0:decide (x6_4<x5_2)=false:=decide_eq_false c24
             clear c24
             have HC32:=Aside0.mk H
             clear H
             obtain ⟨Ao33,co33,eo33⟩:=Kd.R_slice HO_4.out
             subst eo33
             go_upto_if 63 with (fail)
             repeat (go_quiet (fail);go_upto_if 63 with (fail))
             go_cut [] (fun wc=>∃ (kq:Nat) (x4_31:List Int),Aside0 (spec_TreeOk.j4 kq (l0_0.length:Int) x4_31 x5_2 l0_0=some r)∧Aside0 (kq≤k4)∧Aside0 (Kd.R (Kd.int .i64) 3 wc w.heap.size (fun _=>True) (.slice Ao33 x4_2.length co33) x4_31)∧Aside0 (wc.heap[gb171]?=some (.cells #[(.slice A0_0 l0_0.length c0_0)] 29 (0,0)))∧Aside0 (Below w.heap.size w wc))
             case first=>
              have H:=HC32.out
              clear HC32
              by_cases c34:(x4_2.length:Int) > 0
              ·rw [if_pos c34] at H
               have c34b0:decide (0<(x4_2.length:Int))=true:=decide_eq_true c34
               have c34b1:decide (0<x4_2.length)=true:=decide_eq_true (by omega)
               clear c34
               (first|rw [c34b0]|(simp only [i64_w,i32_w];rw [c34b0])|rw [c34b1]|skip)
               obtain ⟨ji35,hji35⟩:∃ j_:Int,(wrap64 ((x4_2.length:Int) - 1))=j_:=⟨_,rfl⟩
               replace H:(if 0≤(ji35) then (if (ji35)<(x4_2.length:Int) then (spec_TreeOk.j4 k4 (l0_0.length:Int) (x4_2.set ((ji35):Int).toNat (wrap64 ((rd x4_2 (ji35)) - 1))) x5_2 l0_0) else (none)) else (none))=some r:=by first|(rw [hji35] at H;exact H)|(simp only [hji35] at H ⊢;exact H)
               have hji35w:(IntKind.i64.wrap ((x4_2.length:Int) - 1))=ji35:=(i64_w _).trans hji35
               by_cases c36:0≤(ji35)
               ·rw [if_pos c36] at H
                have c36b0:decide (0≤(ji35))=true:=decide_eq_true c36
                clear c36
                by_cases c37:(ji35)<(x4_2.length:Int)
                ·rw [if_pos c37] at H
                 have c37b0:decide ((ji35)<(x4_2.length:Int))=true:=decide_eq_true c37
                 clear c37
                 obtain ⟨y181,hy181⟩:∃ y_:List Int,y_=(x4_2.set ((ji35):Int).toNat (wrap64 ((rd x4_2 (ji35)) - 1))):=⟨_,rfl⟩
                 replace H:(spec_TreeOk.j4 k4 (l0_0.length:Int) y181 x5_2 l0_0)=some r:=by first|(rw [hy181];with_reducible exact H)|(have H2_:=(Option.bind_some _ _).symm.trans H;rw [hy181];with_reducible exact H2_)|(have H2_:=(Option.bind_some _ _).symm.trans H;with_reducible exact H2_)|with_reducible exact H|(rw [hy181];exact H)|exact H
                 have Ny181:=Aside0.mk hy181
                 clear hy181
                 have H':=Aside0.mk H
                 clear H
                 have p180:0≤((ji35):Int):=of_decide_eq_true (by first|(with_reducible assumption)|assumption)
                 have q180:(ji35)<(x4_2.length:Int):=of_decide_eq_true (by first|(with_reducible assumption)|assumption)
                 obtain ⟨ad180,e180,hx180_0⟩:=Kd.at_int (Kd.R_reads' HO_4.out).2.2 (ji35) p180 q180
                 cases e180
                 replace p180:=eq_true p180
                 replace q180:=eq_true q180
                 have p38:0≤((ji35):Int):=of_decide_eq_true (by first|(with_reducible assumption)|assumption)
                 have q38:((ji35):Int)<((x4_2.length:Int):Int):=of_decide_eq_true (by first|(with_reducible assumption)|assumption)
                 obtain ⟨go38,co38,eo38,gb38,gl38,cl38,HG38⟩:=Kd.R_form HO_4.out (by omega)
                 (first|cases eo38|(injection eo38 with ea_ en_ ec_;(first|subst ea_|(injection ea_ with ea_;subst ea_));subst ec_;clear en_))
                 have GB38:=Aside0.mk gb38
                 have GG38:=Aside0.mk HG38
                 clear gb38 gl38 HG38
                 (first|simp only [add_plain] at hx180_0|skip)
                 obtain ⟨hx38_0,hf38_0⟩:=Kd.R_celln 0 HO_4.out ((ji35):Int) p38 q38
                 replace p38:=eq_true p38
                 replace q38:=eq_true q38
                 have HP39:=Kd.R_putg HO_4.out ((ji35):Int) (wrap64 ((rd x4_2 (ji35)) - 1))
                 go_wp2_with (first|((with_reducible refine gate_store (t:=3) (p:=71) rfl ?_);(try (rw [drewN_self wr];generalize hq_:World.drewN wr _=wr;have n0_:=Aside0.mk (Kd.R_at hq_ HO_4.out);have n1_:=Aside0.mk (blk_at hq_ BK171.out);have n2_:=Aside0.mk (below_at hq_ HB.out);clear hq_ HO_4 BK171 HB;have HO_4:=n0_;have BK171:=n1_;have HB:=n2_;clear n0_ n1_ n2_;(try (have HP39:=Kd.R_putg HO_4.out ((ji35):Int) (wrap64 ((rd x4_2 (ji35)) - 1))))));refine store_event (t:=3) (p:=71) (v:=?vo_w40) (w1:=(wr.setCell ⟨go38,((ji35):Int).toNat,none⟩ (.int .i64 (wrap64 ((rd x4_2 (ji35)) - 1))))) ?hg ?ho ?hn ?hr ?_;(case ho=>rfl);(case hg=>rfl);(case hn=>rfl);(case hr=>first|(go_simp;done)|(go_simp;rfl));intro w40 hw;have hg:wr.grownBy w40 (some go38):=(by rw [hw];exact HP39.2);have hp_:Kd.R (Kd.int .i64) 3 w40 w.heap.size (fun _=>True) (.slice (some ⟨go38,0,none⟩) x4_2.length co33) y181:=(by rw [hw,Ny181.out];exact HP39.1);clear HP39;have n0_:=Aside0.mk (hp_);have n1_:=Aside0.mk (blk_grown (g:=gb171) (o:=.cells #[.slice A0_0 l0_0.length c0_0] 29 (0,0)) (by (with_reducible repeat (first|refine blk_drewN ?_ _|refine blk_drew ?_|refine blk_alloc ?_ _));exact BK171.out) hg (Kd.R_ne HO_4.out BK171.out (by decide)));have n2_:=Aside0.mk ((by rw [hw];exact below_set (HB.out) GB38.out:Below w.heap.size w w40));clear HO_4;clear BK171;clear HB;have HO_4:=n0_;have BK171:=n1_;have HB:=n2_;clear n0_ n1_ n2_;clear hg hw hp_))
                 repeat (go_quiet (first|((with_reducible refine gate_store (t:=3) (p:=71) rfl ?_);(try (rw [drewN_self wr];generalize hq_:World.drewN wr _=wr;have n0_:=Aside0.mk (Kd.R_at hq_ HO_4.out);have n1_:=Aside0.mk (blk_at hq_ BK171.out);have n2_:=Aside0.mk (below_at hq_ HB.out);clear hq_ HO_4 BK171 HB;have HO_4:=n0_;have BK171:=n1_;have HB:=n2_;clear n0_ n1_ n2_;(try (have HP39:=Kd.R_putg HO_4.out ((ji35):Int) (wrap64 ((rd x4_2 (ji35)) - 1))))));refine store_event (t:=3) (p:=71) (v:=?vo_w40) (w1:=(wr.setCell ⟨go38,((ji35):Int).toNat,none⟩ (.int .i64 (wrap64 ((rd x4_2 (ji35)) - 1))))) ?hg ?ho ?hn ?hr ?_;(case ho=>rfl);(case hg=>rfl);(case hn=>rfl);(case hr=>first|(go_simp;done)|(go_simp;rfl));intro w40 hw;have hg:wr.grownBy w40 (some go38):=(by rw [hw];exact HP39.2);have hp_:Kd.R (Kd.int .i64) 3 w40 w.heap.size (fun _=>True) (.slice (some ⟨go38,0,none⟩) x4_2.length co33) y181:=(by rw [hw,Ny181.out];exact HP39.1);clear HP39;have n0_:=Aside0.mk (hp_);have n1_:=Aside0.mk (blk_grown (g:=gb171) (o:=.cells #[.slice A0_0 l0_0.length c0_0] 29 (0,0)) (by (with_reducible repeat (first|refine blk_drewN ?_ _|refine blk_drew ?_|refine blk_alloc ?_ _));exact BK171.out) hg (Kd.R_ne HO_4.out BK171.out (by decide)));have n2_:=Aside0.mk ((by rw [hw];exact below_set (HB.out) GB38.out:Below w.heap.size w w40));clear HO_4;clear BK171;clear HB;have HO_4:=n0_;have BK171:=n1_;have HB:=n2_;clear n0_ n1_ n2_;clear hg hw hp_));try go_wp2_with (first|((with_reducible refine gate_store (t:=3) (p:=71) rfl ?_);(try (rw [drewN_self wr];generalize hq_:World.drewN wr _=wr;have n0_:=Aside0.mk (Kd.R_at hq_ HO_4.out);have n1_:=Aside0.mk (blk_at hq_ BK171.out);have n2_:=Aside0.mk (below_at hq_ HB.out);clear hq_ HO_4 BK171 HB;have HO_4:=n0_;have BK171:=n1_;have HB:=n2_;clear n0_ n1_ n2_;(try (have HP39:=Kd.R_putg HO_4.out ((ji35):Int) (wrap64 ((rd x4_2 (ji35)) - 1))))));refine store_event (t:=3) (p:=71) (v:=?vo_w40) (w1:=(wr.setCell ⟨go38,((ji35):Int).toNat,none⟩ (.int .i64 (wrap64 ((rd x4_2 (ji35)) - 1))))) ?hg ?ho ?hn ?hr ?_;(case ho=>rfl);(case hg=>rfl);(case hn=>rfl);(case hr=>first|(go_simp;done)|(go_simp;rfl));intro w40 hw;have hg:wr.grownBy w40 (some go38):=(by rw [hw];exact HP39.2);have hp_:Kd.R (Kd.int .i64) 3 w40 w.heap.size (fun _=>True) (.slice (some ⟨go38,0,none⟩) x4_2.length co33) y181:=(by rw [hw,Ny181.out];exact HP39.1);clear HP39;have n0_:=Aside0.mk (hp_);have n1_:=Aside0.mk (blk_grown (g:=gb171) (o:=.cells #[.slice A0_0 l0_0.length c0_0] 29 (0,0)) (by (with_reducible repeat (first|refine blk_drewN ?_ _|refine blk_drew ?_|refine blk_alloc ?_ _));exact BK171.out) hg (Kd.R_ne HO_4.out BK171.out (by decide)));have n2_:=Aside0.mk ((by rw [hw];exact below_set (HB.out) GB38.out:Below w.heap.size w w40));clear HO_4;clear BK171;clear HB;have HO_4:=n0_;have BK171:=n1_;have HB:=n2_;clear n0_ n1_ n2_;clear hg hw hp_)))
                 go_meet
                 case rel=>exact ⟨_,(y181),H',⟨by have:=HJ1.out;have:=HK2.out;have:=HJ12.out;have:=HK4.out;first|omega|exact Nat.le_refl _⟩,⟨by (with_reducible repeat (first|apply Kd.R_alloc|apply Kd.R_drewN|apply Kd.R_drew));exact HO_4.out⟩,⟨by (with_reducible repeat (first|refine blk_drewN ?_ _|refine blk_drew ?_|refine blk_alloc ?_ _));exact BK171.out⟩,⟨by repeat (first|(with_reducible first|exact HB.out|apply below_alloc|apply pw_below_drewN|apply below_drew1|refine below_set ?_ GE171.out)|exact HB.out)⟩⟩
                ·rw [if_neg c37] at H
                 exact absurd H (by simp)
               ·rw [if_neg c36] at H
                exact absurd H (by simp)
              ·rw [if_neg c34] at H
               have c34b0:decide (0<(x4_2.length:Int))=false:=decide_eq_false c34
               have c34b1:decide (0<x4_2.length)=false:=decide_eq_false (by omega)
               clear c34
               (first|rw [c34b0]|(simp only [i64_w,i32_w];rw [c34b0])|rw [c34b1]|skip)
               have H':=Aside0.mk H
               clear H
               go_wp2
               repeat (go_quiet (fail);try go_wp2)
               go_meet
               case rel=>exact ⟨_,(x4_2),H',⟨by have:=HJ1.out;have:=HK2.out;have:=HJ12.out;have:=HK4.out;first|omega|exact Nat.le_refl _⟩,⟨by (with_reducible repeat (first|apply Kd.R_alloc|apply Kd.R_drewN|apply Kd.R_drew));exact HO_4.out⟩,⟨by (with_reducible repeat (first|refine blk_drewN ?_ _|refine blk_drew ?_|refine blk_alloc ?_ _));exact BK171.out⟩,⟨by repeat (first|(with_reducible first|exact HB.out|apply below_alloc|apply pw_below_drewN|apply below_drew1|refine below_set ?_ GE171.out)|exact HB.out)⟩⟩
             case rest=>
              clear HC32
              try clear c1
              try clear p1
              try clear q1
              try clear hx1
              try clear c2
              try clear p2
              try clear c3
              try clear p3
              try clear q3
              try clear hx3
              try clear hf3
              try clear c5
              try clear c5b0
              try clear c5b1
              try clear c6
              try clear c6b0
              try clear c6b1
              try clear p6
              try clear c9
              try clear c12
              try clear c12b0
              try clear c13
              try clear c14
              try clear c14b0
              try clear c15
              try clear c15b0
              try clear c17
              try clear p17
              try clear q17
              try clear hx17
              try clear p18
              try clear q18
              try clear hx18
              try clear c23
              try clear c24
              try clear c24b0
              try clear c25
              try clear c25b0
              try clear c26
              try clear c26b0
              try clear c27
              try clear c27b0
              try clear c28
              try clear c28b0
              try clear c29
              try clear c29b0
              try clear c29b1
              try clear c34
              try clear c34b0
              try clear c34b1
              try clear c36
              try clear c36b0
              try clear c37
              try clear c37b0
              try clear p38
              try clear q38
              try clear hx38
              try clear hf38
              try clear hcz18_0
              try clear hcz21_0
              try clear hcz30_0
              try clear hcz31_0
              try clear hcz4_0
              try clear hcz8_0
              try clear hfz18_0
              try clear hfz21_0
              try clear hfz30_0
              try clear hfz31_0
              try clear hfz4_0
              try clear hfz8_0
              try clear hx176_0
              try clear hx176_1
              try clear hx176_2
              try clear hx176_3
              try clear hx176_4
              try clear hx176_5
              try clear hx178_0
              try clear hx178_1
              try clear hx178_2
              try clear hx178_3
              try clear hx178_4
              try clear hx178_5
              try clear hx179_0
              try clear hx179_1
              try clear hx179_2
              try clear hx179_3
              try clear hx179_4
              try clear hx179_5
              try clear hx180_0
              try clear hx38_0
              try clear p1
              try clear p17
              try clear p176
              try clear p178
              try clear p179
              try clear p180
              try clear p2
              try clear p38
              try clear q1
              try clear q17
              try clear q176
              try clear q178
              try clear q179
              try clear q180
              try clear q38
              obtain ⟨kq,x4_31,HA,HJ31,HO_4,BK171,HB⟩:=hcut
              have hl4_31:=(Kd.R_reads' HO_4.out).1
              rw [hl4_31] at HO_4
              (try simp only [hl4_31])
              (try simp only [hl4_31] at BK171)
              cases kq with
              |zero=>exact absurd HA.out (by simp [spec_TreeOk.j4])
              |succ kj31=>
               have H:=HA.out
               clear HA
               simp only [spec_TreeOk.j4] at H
               by_cases c41:0≤x5_2
               ·rw [if_pos c41] at H
                have c41b0:decide (0≤x5_2)=true:=decide_eq_true c41
                clear c41
                by_cases c42:x5_2<(l0_0.length:Int)
                ·rw [if_pos c42] at H
                 have c42b0:decide (x5_2<(l0_0.length:Int))=true:=decide_eq_true c42
                 clear c42
                 by_cases c43:x4_31.length<17592186044416
                 ·rw [if_pos c43] at H
                  have LMc43:=Aside0.mk c43
                  clear c43
                  obtain ⟨y183,hy183⟩:∃ y_:List Int,y_=(x4_31++[(rd_T57 l0_0 x5_2).f5]):=⟨_,rfl⟩
                  replace H:(spec_TreeOk.l2 kj31 (l0_0.length:Int) y183 x5_2 l0_0)=some r:=by first|(rw [hy183];with_reducible exact H)|(have H2_:=(Option.bind_some _ _).symm.trans H;rw [hy183];with_reducible exact H2_)|(have H2_:=(Option.bind_some _ _).symm.trans H;with_reducible exact H2_)|with_reducible exact H|(rw [hy183];exact H)|exact H
                  have Ny183:=Aside0.mk hy183
                  clear hy183
                  have H':=Aside0.mk H
                  clear H
                  have hcz44_0:wc.cell? ⟨gb171,0,none⟩=some (.slice A0_0 l0_0.length c0_0):=(blk_cell BK171.out 0).trans rfl
                  have hfz44_0:=blk_frozen BK171.out 0
                  have p182:0≤(x5_2:Int):=of_decide_eq_true (by first|(with_reducible assumption)|assumption)
                  have q182:x5_2<(l0_0.length:Int):=of_decide_eq_true (by first|(with_reducible assumption)|assumption)
                  obtain ⟨ad182,A182_3,c182_3,e182,hx182_0,hx182_1,hx182_2,hx182_3,hx182_4,hx182_5,hl182_3,hi182_3⟩:=at_T57 HR0_0.out x5_2 p182 q182
                  cases e182
                  replace hx182_0:=(HB.out.cell (World.block_lt_of_cell? w _ hx182_0)).trans hx182_0
                  replace hx182_1:=(HB.out.cell (World.block_lt_of_cell? w _ hx182_1)).trans hx182_1
                  replace hx182_2:=(HB.out.cell (World.block_lt_of_cell? w _ hx182_2)).trans hx182_2
                  replace hx182_3:=(HB.out.cell (World.block_lt_of_cell? w _ hx182_3)).trans hx182_3
                  replace hx182_4:=(HB.out.cell (World.block_lt_of_cell? w _ hx182_4)).trans hx182_4
                  replace hx182_5:=(HB.out.cell (World.block_lt_of_cell? w _ hx182_5)).trans hx182_5
                  have HR182_3:=Aside0.mk hi182_3
                  have HC182_3:=Aside0.mk hl182_3
                  clear hi182_3 hl182_3
                  replace p182:=eq_true p182
                  replace q182:=eq_true q182
                  go_wp2_with (first|((with_reducible refine gate_builtin (b:=.append) (xs:=#[.tmp 72,.tmp 79]) rfl ?_);(try (refine gate_guard (by rfl) ?_;dsimp only));at_builtin;refine Kd.R_append (Kd.int .i64) (w0:=w) w.heap.size rfl (.tmp 72) (.tmp 79) 65 3 (.int .i64 0) 8 rfl Tryz.underlying65 info3 rfl (by decide) (by omega) (.slice Ao33 x4_31.length co33) x4_31 ((rd_T57 l0_0 x5_2).f5) [.int .i64 ((rd_T57 l0_0 x5_2).f5)] (fun _=>True) (fun _=>False) rfl rfl ?aP (fun _ hk=>hk.elim) ?aF ?aO ?aB ?aS ?aL ?_;(case aP=>exact rfl);(case aB=>exact (by repeat (first|(with_reducible first|exact HB.out|apply below_alloc|apply pw_below_drewN|apply below_drew1|refine below_set ?_ GE171.out)|exact HB.out)));(case aF=>exact (fun _ _=>trivial));(case aO=>exact (by (with_reducible repeat (first|apply Kd.R_alloc|apply Kd.R_drewN|apply Kd.R_drew));exact HO_4.out));(case aS=>exact (below_size (by repeat (first|(with_reducible first|exact HB.out|apply below_alloc|apply pw_below_drewN|apply below_drew1|refine below_set ?_ GE171.out)|exact HB.out))));(case aL=>have:=LMc43.out;omega);intro v184 w45 ho hb hg hat;rw [← Ny183.out] at ho;have n0_:=Aside0.mk (blk_grown (g:=gb171) (o:=.cells #[.slice (some ad182) l0_0.length c0_0] 29 (0,0)) (by (with_reducible repeat (first|refine blk_drewN ?_ _|refine blk_drew ?_|refine blk_alloc ?_ _));exact BK171.out) hg (Kd.R_ne HO_4.out BK171.out (by decide)));have n1_:=Aside0.mk (hb);have n2_:=Aside0.mk (ho);clear BK171;clear HB;clear HO_4;have BK171:=n0_;have HB:=n1_;have HO185:=n2_;clear n0_ n1_ n2_;clear ho hb hg hat))
                  repeat (go_quiet (first|((with_reducible refine gate_builtin (b:=.append) (xs:=#[.tmp 72,.tmp 79]) rfl ?_);(try (refine gate_guard (by rfl) ?_;dsimp only));at_builtin;refine Kd.R_append (Kd.int .i64) (w0:=w) w.heap.size rfl (.tmp 72) (.tmp 79) 65 3 (.int .i64 0) 8 rfl Tryz.underlying65 info3 rfl (by decide) (by omega) (.slice Ao33 x4_31.length co33) x4_31 ((rd_T57 l0_0 x5_2).f5) [.int .i64 ((rd_T57 l0_0 x5_2).f5)] (fun _=>True) (fun _=>False) rfl rfl ?aP (fun _ hk=>hk.elim) ?aF ?aO ?aB ?aS ?aL ?_;(case aP=>exact rfl);(case aB=>exact (by repeat (first|(with_reducible first|exact HB.out|apply below_alloc|apply pw_below_drewN|apply below_drew1|refine below_set ?_ GE171.out)|exact HB.out)));(case aF=>exact (fun _ _=>trivial));(case aO=>exact (by (with_reducible repeat (first|apply Kd.R_alloc|apply Kd.R_drewN|apply Kd.R_drew));exact HO_4.out));(case aS=>exact (below_size (by repeat (first|(with_reducible first|exact HB.out|apply below_alloc|apply pw_below_drewN|apply below_drew1|refine below_set ?_ GE171.out)|exact HB.out))));(case aL=>have:=LMc43.out;omega);intro v184 w45 ho hb hg hat;rw [← Ny183.out] at ho;have n0_:=Aside0.mk (blk_grown (g:=gb171) (o:=.cells #[.slice (some ad182) l0_0.length c0_0] 29 (0,0)) (by (with_reducible repeat (first|refine blk_drewN ?_ _|refine blk_drew ?_|refine blk_alloc ?_ _));exact BK171.out) hg (Kd.R_ne HO_4.out BK171.out (by decide)));have n1_:=Aside0.mk (hb);have n2_:=Aside0.mk (ho);clear BK171;clear HB;clear HO_4;have BK171:=n0_;have HB:=n1_;have HO185:=n2_;clear n0_ n1_ n2_;clear ho hb hg hat));try go_wp2_with (first|((with_reducible refine gate_builtin (b:=.append) (xs:=#[.tmp 72,.tmp 79]) rfl ?_);(try (refine gate_guard (by rfl) ?_;dsimp only));at_builtin;refine Kd.R_append (Kd.int .i64) (w0:=w) w.heap.size rfl (.tmp 72) (.tmp 79) 65 3 (.int .i64 0) 8 rfl Tryz.underlying65 info3 rfl (by decide) (by omega) (.slice Ao33 x4_31.length co33) x4_31 ((rd_T57 l0_0 x5_2).f5) [.int .i64 ((rd_T57 l0_0 x5_2).f5)] (fun _=>True) (fun _=>False) rfl rfl ?aP (fun _ hk=>hk.elim) ?aF ?aO ?aB ?aS ?aL ?_;(case aP=>exact rfl);(case aB=>exact (by repeat (first|(with_reducible first|exact HB.out|apply below_alloc|apply pw_below_drewN|apply below_drew1|refine below_set ?_ GE171.out)|exact HB.out)));(case aF=>exact (fun _ _=>trivial));(case aO=>exact (by (with_reducible repeat (first|apply Kd.R_alloc|apply Kd.R_drewN|apply Kd.R_drew));exact HO_4.out));(case aS=>exact (below_size (by repeat (first|(with_reducible first|exact HB.out|apply below_alloc|apply pw_below_drewN|apply below_drew1|refine below_set ?_ GE171.out)|exact HB.out))));(case aL=>have:=LMc43.out;omega);intro v184 w45 ho hb hg hat;rw [← Ny183.out] at ho;have n0_:=Aside0.mk (blk_grown (g:=gb171) (o:=.cells #[.slice (some ad182) l0_0.length c0_0] 29 (0,0)) (by (with_reducible repeat (first|refine blk_drewN ?_ _|refine blk_drew ?_|refine blk_alloc ?_ _));exact BK171.out) hg (Kd.R_ne HO_4.out BK171.out (by decide)));have n1_:=Aside0.mk (hb);have n2_:=Aside0.mk (ho);clear BK171;clear HB;clear HO_4;have BK171:=n0_;have HB:=n1_;have HO185:=n2_;clear n0_ n1_ n2_;clear ho hb hg hat)))
                  go_loopg [4] kj31 (fun kq v4 w'=>∃ (x4_6:List Int),Aside0 (spec_TreeOk.l2 kq (l0_0.length:Int) x4_6 x5_2 l0_0=some r)∧Aside0 (kq≤kj31)∧Aside0 (Kd.R (Kd.int .i64) 3 w' w.heap.size (fun _=>True) v4 x4_6)∧Aside0 (w'.heap[gb171]?=some (.cells #[(.slice (some ad182) l0_0.length c0_0)] 29 (0,0)))∧Aside0 (Below w.heap.size w w'))
                  case atStart=>exact ⟨(y183),H',⟨Nat.le_refl _⟩,⟨by (try simp only [hl4_31]);(with_reducible repeat (first|apply Kd.R_alloc|apply Kd.R_drewN|apply Kd.R_drew));exact HO185.out⟩,⟨by (try simp only [hl4_31]);(with_reducible repeat (first|refine blk_drewN ?_ _|refine blk_drew ?_|refine blk_alloc ?_ _));exact BK171.out⟩,⟨by repeat (first|(with_reducible first|exact HB.out|apply below_alloc|apply pw_below_drewN|apply below_drew1|refine below_set ?_ GE171.out)|exact HB.out)⟩⟩
                  case round=>
                   clear H'
                   try clear c1
                   try clear p1
                   try clear q1
                   try clear hx1
                   try clear c2
                   try clear p2
                   try clear c3
                   try clear p3
                   try clear q3
                   try clear hx3
                   try clear hf3
                   try clear c4
                   try clear c5
                   try clear c5b0
                   try clear c5b1
                   try clear c6
                   try clear c6b0
                   try clear c6b1
                   try clear p6
                   try clear c9
                   try clear c12
                   try clear c12b0
                   try clear c13
                   try clear c14
                   try clear c14b0
                   try clear c15
                   try clear c15b0
                   try clear c17
                   try clear p17
                   try clear q17
                   try clear hx17
                   try clear c18
                   try clear p18
                   try clear q18
                   try clear hx18
                   try clear c23
                   try clear c24
                   try clear c24b0
                   try clear c25
                   try clear c25b0
                   try clear c26
                   try clear c26b0
                   try clear c27
                   try clear c27b0
                   try clear c28
                   try clear c28b0
                   try clear c29
                   try clear c29b0
                   try clear c29b1
                   try clear c34
                   try clear c34b0
                   try clear c34b1
                   try clear c36
                   try clear c36b0
                   try clear c37
                   try clear c37b0
                   try clear p38
                   try clear q38
                   try clear hx38
                   try clear hf38
                   try clear c41
                   try clear c41b0
                   try clear c42
                   try clear c42b0
                   try clear c43
                   try clear hcz18_0
                   try clear hcz21_0
                   try clear hcz30_0
                   try clear hcz31_0
                   try clear hcz44_0
                   try clear hcz4_0
                   try clear hcz8_0
                   try clear hfz18_0
                   try clear hfz21_0
                   try clear hfz30_0
                   try clear hfz31_0
                   try clear hfz44_0
                   try clear hfz4_0
                   try clear hfz8_0
                   try clear hx176_0
                   try clear hx176_1
                   try clear hx176_2
                   try clear hx176_3
                   try clear hx176_4
                   try clear hx176_5
                   try clear hx178_0
                   try clear hx178_1
                   try clear hx178_2
                   try clear hx178_3
                   try clear hx178_4
                   try clear hx178_5
                   try clear hx179_0
                   try clear hx179_1
                   try clear hx179_2
                   try clear hx179_3
                   try clear hx179_4
                   try clear hx179_5
                   try clear hx180_0
                   try clear hx182_0
                   try clear hx182_1
                   try clear hx182_2
                   try clear hx182_3
                   try clear hx182_4
                   try clear hx182_5
                   try clear hx38_0
                   try clear p1
                   try clear p17
                   try clear p176
                   try clear p178
                   try clear p179
                   try clear p18
                   try clear p180
                   try clear p182
                   try clear p2
                   try clear p3
                   try clear p38
                   try clear p6
                   try clear q1
                   try clear q17
                   try clear q176
                   try clear q178
                   try clear q179
                   try clear q18
                   try clear q180
                   try clear q182
                   try clear q3
                   try clear q38
                   obtain ⟨x4_6,HA,HK6,HO_4,BK171,HB⟩:=hrel
                   cases gk with
                   |zero=>exact absurd HA.out (by simp [spec_TreeOk.l2])
                   |succ k6=>
                    have H:=HA.out
                    clear HA
                    simp only [spec_TreeOk.l2] at H
                    by_cases c46:(x4_6.length:Int) > 0
                    ·rw [if_pos c46] at H
                     have c46b0:decide (0<(x4_6.length:Int))=true:=decide_eq_true c46
                     have c46b1:decide (0<x4_6.length)=true:=decide_eq_true (by omega)
                     clear c46
                     obtain ⟨ji47,hji47⟩:∃ j_:Int,(wrap64 ((x4_6.length:Int) - 1))=j_:=⟨_,rfl⟩
                     replace H:(if 0≤(ji47) then (if (ji47)<(x4_6.length:Int) then (if (rd x4_6 (ji47))=0 then (if (ji47)≤(x4_6.length:Int) then (spec_TreeOk.l2 k6 (l0_0.length:Int) (x4_6.take ((ji47):Int).toNat) x5_2 l0_0) else (none)) else (spec_TreeOk.l0 k6 (l0_0.length:Int) x4_6 (wrap64 (x5_2+1)) l0_0)) else (none)) else (none))=some r:=by first|(rw [hji47] at H;exact H)|(simp only [hji47] at H ⊢;exact H)
                     have hji47w:(IntKind.i64.wrap ((x4_6.length:Int) - 1))=ji47:=(i64_w _).trans hji47
                     by_cases c48:0≤(ji47)
                     ·rw [if_pos c48] at H
                      have c48b0:decide (0≤(ji47))=true:=decide_eq_true c48
                      clear c48
                      by_cases c49:(ji47)<(x4_6.length:Int)
                      ·rw [if_pos c49] at H
                       have c49b0:decide ((ji47)<(x4_6.length:Int))=true:=decide_eq_true c49
                       clear c49
                       by_cases c50:(rd x4_6 (ji47))=0
                       ·rw [if_pos c50] at H
                        have c50b0:((rd x4_6 (ji47))==0)=true:=beq_iff_eq.mpr c50
                        have c50b1:((rd x4_6 (ji47)) != 0)=false:=bne_eq_false_iff_eq.mpr c50
                        clear c50
                        by_cases c51:(ji47)≤(x4_6.length:Int)
                        ·rw [if_pos c51] at H
                         have c51b0:=eq_true c51
                         have c51b1:decide ((ji47)≤(x4_6.length:Int))=true:=decide_eq_true c51
                         clear c51
                         obtain ⟨y187,hy187⟩:∃ y_:List Int,y_=(x4_6.take ((ji47):Int).toNat):=⟨_,rfl⟩
                         replace H:(spec_TreeOk.l2 k6 (l0_0.length:Int) y187 x5_2 l0_0)=some r:=by first|(rw [hy187];with_reducible exact H)|(have H2_:=(Option.bind_some _ _).symm.trans H;rw [hy187];with_reducible exact H2_)|(have H2_:=(Option.bind_some _ _).symm.trans H;with_reducible exact H2_)|with_reducible exact H|(rw [hy187];exact H)|exact H
                         have Ny187:=Aside0.mk hy187
                         clear hy187
                         have H':=Aside0.mk H
                         clear H
                         obtain ⟨Ao52,co52,eo52⟩:=Kd.R_slice HO_4.out
                         subst eo52
                         have p186:0≤((ji47):Int):=of_decide_eq_true (by first|(with_reducible assumption)|assumption)
                         have q186:(ji47)<(x4_6.length:Int):=of_decide_eq_true (by first|(with_reducible assumption)|assumption)
                         obtain ⟨ad186,e186,hx186_0⟩:=Kd.at_int (Kd.R_reads' HO_4.out).2.2 (ji47) p186 q186
                         cases e186
                         replace p186:=eq_true p186
                         replace q186:=eq_true q186
                         have q53:((ji47):Int)≤((x4_6.length:Int):Int):=of_decide_eq_true (by first|(with_reducible assumption)|assumption)
                         obtain ⟨i053,hi053,_,hsz53,_⟩:=info_parts info3
                         have hcut53:=cut_to (P:=Tryz.prog) 65 3 .i64 Tryz.underlying65 hi053 (some ad186) x4_6.length co52 (ji47) (of_decide_eq_true (by first|(with_reducible assumption)|assumption)) q53 (Kd.R_reads' HO_4.out).2.1
                         have hr53:=Kd.R_take (m:=((ji47):Int).toNat) HO_4.out (by omega)
                         have hy53:y187.length=((ji47):Int).toNat:=(by rw [Ny187.out,List.length_take];omega)
                         rw [← Ny187.out] at hr53
                         rw [← hy53] at hr53 hcut53
                         clear hy53 hi053 hsz53 HO_4
                         have HO189:=Aside0.mk hr53
                         clear hr53
                         replace q53:=eq_true q53
                         go_wp2
                         repeat (go_quiet (fail);try go_wp2)
                         go_roundg k6
                         case measure=>have:=HJ1.out;have:=HK2.out;have:=HJ12.out;have:=HK4.out;have:=HJ31.out;have:=HK6.out;omega
                         case rel=>exact ⟨(y187),H',⟨by have:=HJ1.out;have:=HK2.out;have:=HJ12.out;have:=HK4.out;have:=HJ31.out;have:=HK6.out;omega⟩,⟨by (try simp only [hl4_31]);(with_reducible repeat (first|apply Kd.R_alloc|apply Kd.R_drewN|apply Kd.R_drew));exact HO189.out⟩,⟨by (try simp only [hl4_31]);(with_reducible repeat (first|refine blk_drewN ?_ _|refine blk_drew ?_|refine blk_alloc ?_ _));exact BK171.out⟩,⟨by repeat (first|(with_reducible first|exact HB.out|apply below_alloc|apply pw_below_drewN|apply below_drew1|refine below_set ?_ GE171.out)|exact HB.out)⟩⟩
                        ·rw [if_neg c51] at H
                         exact absurd H (by simp)
                       ·rw [if_neg c50] at H
                        have c50b0:((rd x4_6 (ji47))==0)=false:=beq_eq_false_iff_ne.mpr c50
                        have c50b1:((rd x4_6 (ji47)) != 0)=true:=bne_iff_ne.mpr c50
                        have H':=Aside0.mk H
                        clear H
                        obtain ⟨Ao54,co54,eo54⟩:=Kd.R_slice HO_4.out
                        subst eo54
                        have p186:0≤((ji47):Int):=of_decide_eq_true (by first|(with_reducible assumption)|assumption)
                        have q186:(ji47)<(x4_6.length:Int):=of_decide_eq_true (by first|(with_reducible assumption)|assumption)
                        obtain ⟨ad186,e186,hx186_0⟩:=Kd.at_int (Kd.R_reads' HO_4.out).2.2 (ji47) p186 q186
                        cases e186
                        replace p186:=eq_true p186
                        replace q186:=eq_true q186
                        go_wp2
                        repeat (go_quiet (fail);try go_wp2)
                        (try simp only [← hl4_31])
                        go_roundg k6
                        case measure=>have:=HJ1.out;have:=HK2.out;have:=HJ12.out;have:=HK4.out;have:=HJ31.out;have:=HK6.out;omega
                        case rel=>exact ⟨(x4_6),(wrap64 (x5_2+1)),(by first|rfl|(simp;done)|(simp [*];done)),H',⟨by have:=HJ1.out;have:=HK2.out;have:=HJ12.out;have:=HK4.out;have:=HJ31.out;have:=HK6.out;omega⟩,⟨by (try simp only [hl4_31]);(with_reducible repeat (first|apply Kd.R_alloc|apply Kd.R_drewN|apply Kd.R_drew));exact HO_4.out⟩,⟨by (try simp only [hl4_31]);(with_reducible repeat (first|refine blk_drewN ?_ _|refine blk_drew ?_|refine blk_alloc ?_ _));exact BK171.out⟩,⟨by repeat (first|(with_reducible first|exact HB.out|apply below_alloc|apply pw_below_drewN|apply below_drew1|refine below_set ?_ GE171.out)|exact HB.out)⟩⟩
                      ·rw [if_neg c49] at H
                       exact absurd H (by simp)
                     ·rw [if_neg c48] at H
                      exact absurd H (by simp)
                    ·rw [if_neg c46] at H
                     have c46b0:decide (0<(x4_6.length:Int))=false:=decide_eq_false c46
                     have c46b1:decide (0<x4_6.length)=false:=decide_eq_false (by omega)
                     clear c46
                     have H':=Aside0.mk H
                     clear H
                     obtain ⟨Ao55,co55,eo55⟩:=Kd.R_slice HO_4.out
                     subst eo55
                     go_wp2
                     repeat (go_quiet (fail);try go_wp2)
                     (try simp only [← hl4_31])
                     go_roundg k6
                     case measure=>have:=HJ1.out;have:=HK2.out;have:=HJ12.out;have:=HK4.out;have:=HJ31.out;have:=HK6.out;omega
                     case rel=>exact ⟨(x4_6),(wrap64 (x5_2+1)),(by first|rfl|(simp;done)|(simp [*];done)),H',⟨by have:=HJ1.out;have:=HK2.out;have:=HJ12.out;have:=HK4.out;have:=HJ31.out;have:=HK6.out;omega⟩,⟨by (try simp only [hl4_31]);(with_reducible repeat (first|apply Kd.R_alloc|apply Kd.R_drewN|apply Kd.R_drew));exact HO_4.out⟩,⟨by (try simp only [hl4_31]);(with_reducible repeat (first|refine blk_drewN ?_ _|refine blk_drew ?_|refine blk_alloc ?_ _));exact BK171.out⟩,⟨by repeat (first|(with_reducible first|exact HB.out|apply below_alloc|apply pw_below_drewN|apply below_drew1|refine below_set ?_ GE171.out)|exact HB.out)⟩⟩
                 ·rw [if_neg c43] at H
                  exact absurd H (by simp)
                ·rw [if_neg c42] at H
                 exact absurd H (by simp)
               ·rw [if_neg c41] at H
                exact absurd H (by simp)
      ·rw [if_neg c12] at H
       have c12b0:decide (x5_2<(l0_0.length:Int))=false:=decide_eq_false c12
       clear c12
       obtain rfl:=Option.some.inj H
       go_wp2
       repeat (go_quiet (fail);try go_wp2)
       go_ret
       exact ⟨by first|rfl|(simp [errW_none,errW_some]<;>rfl)|(simp [*,errW_none,errW_some]<;>rfl),by repeat (first|(with_reducible first|exact HB.out|apply below_alloc|apply pw_below_drewN|apply below_drew1|refine below_set ?_ GE171.out)|exact HB.out)⟩
end Go.Proofs.YtjojmfhgfeflnaaGreatDoor.QFnExactInner
