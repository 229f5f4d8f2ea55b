/- Written by a program (wip/tools/own_print.py) out of the walk that the kit's printer made; turned where it fell. -/
-- PRINTED by print.py (a twelfth state) out of the translation. Not trusted: Lean checks it.
import Derived.Test.YtiinihponcojkaaQFnExactAdvancex0
import Derived.Test.YtiinihponcojkaaQFnExactAdvancex5
import Derived.Test.YtiinihponcojkaaQFnExactAdvancex6
import Derived.Test.YtiinihponcojkaaQFnExactAdvancex7
namespace Go.Proofs.Ytiinihponcojkaa.QFnExactAdvance
open Go.RowKit Go.Proofs.YtiinihponcojkaaV.PrintWords Go.Proofs.YtiinihponcojkaaV.PrintLast Go.Proofs.YtiinihponcojkaaV.PrintMore
attribute [local go_sem] max2_int min2_int max_two min_two max_three min_three max_four min_four   -- for this text's walks alone
set_option linter.unusedVariables false
set_option linter.unusedSimpArgs false
private theorem blkf7 {w:World} {g:Nat} {t:TypeId} {c0 c1 c2 c3 c4 c5 c6:Value} (h:w.heap[g]?=some (.cells #[c0,c1,c2,c3,c4,c5,c6] t (0,0))):w.cell? ⟨g,0,none⟩=some c0∧w.cell? ⟨g,1,none⟩=some c1∧w.cell? ⟨g,2,none⟩=some c2∧w.cell? ⟨g,3,none⟩=some c3∧w.cell? ⟨g,4,none⟩=some c4∧w.cell? ⟨g,5,none⟩=some c5∧w.cell? ⟨g,6,none⟩=some c6∧w.frozen? ⟨g,0,none⟩=false∧w.frozen? ⟨g,1,none⟩=false∧w.frozen? ⟨g,2,none⟩=false∧w.frozen? ⟨g,3,none⟩=false∧w.frozen? ⟨g,4,none⟩=false∧w.frozen? ⟨g,5,none⟩=false∧w.frozen? ⟨g,6,none⟩=false:=⟨(blk_cell h 0).trans rfl,(blk_cell h 1).trans rfl,(blk_cell h 2).trans rfl,(blk_cell h 3).trans rfl,(blk_cell h 4).trans rfl,(blk_cell h 5).trans rfl,(blk_cell h 6).trans rfl,blk_frozen h 0,blk_frozen h 1,blk_frozen h 2,blk_frozen h 3,blk_frozen h 4,blk_frozen h 5,blk_frozen h 6⟩
/-! ### spec_Advance: function 16 -/
mutual
def spec_Advance.j0:Nat→List Int→Int→Bool→Int→Int→Int→Int→List (S79)→List (S81)→List (S84)→Option (Int)
  |0,_,_,_,_,_,_,_,_,_,_=>none
  |k+1,x1,x2,x21,x224000,x224001,x224002,x224003,x224004,x224005,x224006=>if x21=true then (some 0) else (spec_Advance.l0 k x1 x2 (([]:List Int)) 0 x224000 x224001 x224002 x224003 x224004 x224005 x224006)
def spec_Advance.l0:Nat→List Int→Int→List Int→Int→Int→Int→Int→Int→List (S79)→List (S81)→List (S84)→Option (Int)
  |0,_,_,_,_,_,_,_,_,_,_,_=>none
  |k+1,x1,x2,x7,x8,x224000,x224001,x224002,x224003,x224004,x224005,x224006=>if x8<(x1.length:Int) then (if 0≤x8 then ((spec_l12Silent.f (rd x1 x8)).bind fun t229=>(if t229=true then (spec_Advance.l0 k x1 x2 x7 (wrap64 (x8+1)) x224000 x224001 x224002 x224003 x224004 x224005 x224006) else (if x7.length<17592186044416 then (spec_Advance.l0 k x1 x2 (x7++[rd x1 x8]) (wrap64 (x8+1)) x224000 x224001 x224002 x224003 x224004 x224005 x224006) else (none)))) else (none)) else ((spec_Shape.f k x224000 x224001 x224002 x224003 x224004 x224005 x224006 x7).bind fun t234=>(spec_Advance.l1 k x2 t234 0 0 x224000 x224001 x224002 x224003 x224004 x224005 x224006))
def spec_Advance.l1:Nat→Int→List Int→Int→Int→Int→Int→Int→Int→List (S79)→List (S81)→List (S84)→Option (Int)
  |0,_,_,_,_,_,_,_,_,_,_,_=>none
  |k+1,x2,x7,x9,x10,x224000,x224001,x224002,x224003,x224004,x224005,x224006=>if x10<(x7.length:Int) then (if 0≤x10 then ((spec_l12Advance.f k x224000 x224001 x224002 x224003 x224004 x224005 x224006 (rd x7 x10)).bind fun t239=>((spec_l9Floor.f (wrap64 (t239*x2)) x224000).bind fun t240=>(if x10 > 0 then (if 0≤(wrap64 (x10 - 1)) then (if (wrap64 (x10 - 1))<(x7.length:Int) then ((spec_l12Kern.f k x224000 x224001 x224002 x224003 x224004 x224005 x224006 (rd x7 (wrap64 (x10 - 1))) (rd x7 x10)).bind fun t243=>((spec_l9Floor.f (wrap64 (t243*x2)) x224000).bind fun t244=>(spec_Advance.l1 k x2 x7 (wrap64 ((wrap64 (x9+t240))+t244)) (wrap64 (x10+1)) x224000 x224001 x224002 x224003 x224004 x224005 x224006))) else (none)) else (none)) else (spec_Advance.l1 k x2 x7 (wrap64 (x9+t240)) (wrap64 (x10+1)) x224000 x224001 x224002 x224003 x224004 x224005 x224006)))) else (none)) else (if x9<0 then (some 0) else ((spec_l9Clamp.f x9).bind fun t237=>(some t237)))
end
def spec_Advance.f (k:Nat) (a0_0:Int) (a0_1:Int) (a0_2:Int) (a0_3:Int) (l0_4:List (S79)) (l0_5:List (S81)) (l0_6:List (S84)) (l1:List Int) (a2:Int):Option (Int):=(spec_FontOk.f k a0_0 a0_1 a0_2 a0_3 l0_4 l0_5 l0_6).bind fun t224=>(if t224=true then (if a2<0 then (spec_Advance.j0 k l1 a2 true a0_0 a0_1 a0_2 a0_3 l0_4 l0_5 l0_6) else (spec_Advance.j0 k l1 a2 (decide (a2 > 64000)) a0_0 a0_1 a0_2 a0_3 l0_4 l0_5 l0_6)) else (spec_Advance.j0 k l1 a2 true a0_0 a0_1 a0_2 a0_3 l0_4 l0_5 l0_6))
theorem spec_Advance.mono_l:∀ k,(∀ y0 y1 y2 y3 y4 y5 y6 y7 y8 y9,LeO (spec_Advance.j0 k y0 y1 y2 y3 y4 y5 y6 y7 y8 y9) (spec_Advance.j0 (k+1) y0 y1 y2 y3 y4 y5 y6 y7 y8 y9))∧(∀ y0 y1 y2 y3 y4 y5 y6 y7 y8 y9 y10,LeO (spec_Advance.l0 k y0 y1 y2 y3 y4 y5 y6 y7 y8 y9 y10) (spec_Advance.l0 (k+1) y0 y1 y2 y3 y4 y5 y6 y7 y8 y9 y10))∧(∀ y0 y1 y2 y3 y4 y5 y6 y7 y8 y9 y10,LeO (spec_Advance.l1 k y0 y1 y2 y3 y4 y5 y6 y7 y8 y9 y10) (spec_Advance.l1 (k+1) y0 y1 y2 y3 y4 y5 y6 y7 y8 y9 y10))
 |0=>⟨fun _ _ _ _ _ _ _ _ _ _ r h=>by simp [spec_Advance.j0] at h,fun _ _ _ _ _ _ _ _ _ _ _ r h=>by simp [spec_Advance.l0] at h,fun _ _ _ _ _ _ _ _ _ _ _ r h=>by simp [spec_Advance.l1] at h⟩
 |k+1=>by
  obtain ⟨ih0,ih1,ih2⟩:=spec_Advance.mono_l k
  refine ⟨?_,?_,?_⟩
  ·intro y0 y1 y2 y3 y4 y5 y6 y7 y8 y9
   unfold spec_Advance.j0
   repeat' first
  |(with_reducible exact ih0 _ _ _ _ _ _ _ _ _ _)
  |(with_reducible exact ih1 _ _ _ _ _ _ _ _ _ _ _)
  |(with_reducible exact ih2 _ _ _ _ _ _ _ _ _ _ _)
  |(with_reducible exact spec_FontOk.mono _ _ _ _ _ _ _ _)
  |(with_reducible exact spec_Shape.mono _ _ _ _ _ _ _ _ _)
  |(with_reducible exact spec_l12Advance.mono _ _ _ _ _ _ _ _ _)
  |(with_reducible exact spec_l12Kern.mono _ _ _ _ _ _ _ _ _ _)
  |(with_reducible exact LeO.refl _)
  |(with_reducible exact LeO.none _)
  |(with_reducible refine LeO.ite ?_ ?_)
  |(with_reducible refine LeO.bind ?_ (fun _=>?_))
  |exact ih0 _ _ _ _ _ _ _ _ _ _
  |exact ih1 _ _ _ _ _ _ _ _ _ _ _
  |exact ih2 _ _ _ _ _ _ _ _ _ _ _
  |exact spec_FontOk.mono _ _ _ _ _ _ _ _
  |exact spec_Shape.mono _ _ _ _ _ _ _ _ _
  |exact spec_l12Advance.mono _ _ _ _ _ _ _ _ _
  |exact spec_l12Kern.mono _ _ _ _ _ _ _ _ _ _
  |exact LeO.none _
  |refine LeO.ite ?_ ?_
  |refine LeO.bind ?_ (fun _=>?_)
  ·intro y0 y1 y2 y3 y4 y5 y6 y7 y8 y9 y10
   unfold spec_Advance.l0
   repeat' first
  |(with_reducible exact ih0 _ _ _ _ _ _ _ _ _ _)
  |(with_reducible exact ih1 _ _ _ _ _ _ _ _ _ _ _)
  |(with_reducible exact ih2 _ _ _ _ _ _ _ _ _ _ _)
  |(with_reducible exact spec_FontOk.mono _ _ _ _ _ _ _ _)
  |(with_reducible exact spec_Shape.mono _ _ _ _ _ _ _ _ _)
  |(with_reducible exact spec_l12Advance.mono _ _ _ _ _ _ _ _ _)
  |(with_reducible exact spec_l12Kern.mono _ _ _ _ _ _ _ _ _ _)
  |(with_reducible exact LeO.refl _)
  |(with_reducible exact LeO.none _)
  |(with_reducible refine LeO.ite ?_ ?_)
  |(with_reducible refine LeO.bind ?_ (fun _=>?_))
  |exact ih0 _ _ _ _ _ _ _ _ _ _
  |exact ih1 _ _ _ _ _ _ _ _ _ _ _
  |exact ih2 _ _ _ _ _ _ _ _ _ _ _
  |exact spec_FontOk.mono _ _ _ _ _ _ _ _
  |exact spec_Shape.mono _ _ _ _ _ _ _ _ _
  |exact spec_l12Advance.mono _ _ _ _ _ _ _ _ _
  |exact spec_l12Kern.mono _ _ _ _ _ _ _ _ _ _
  |exact LeO.none _
  |refine LeO.ite ?_ ?_
  |refine LeO.bind ?_ (fun _=>?_)
  ·intro y0 y1 y2 y3 y4 y5 y6 y7 y8 y9 y10
   unfold spec_Advance.l1
   repeat' first
  |(with_reducible exact ih0 _ _ _ _ _ _ _ _ _ _)
  |(with_reducible exact ih1 _ _ _ _ _ _ _ _ _ _ _)
  |(with_reducible exact ih2 _ _ _ _ _ _ _ _ _ _ _)
  |(with_reducible exact spec_FontOk.mono _ _ _ _ _ _ _ _)
  |(with_reducible exact spec_Shape.mono _ _ _ _ _ _ _ _ _)
  |(with_reducible exact spec_l12Advance.mono _ _ _ _ _ _ _ _ _)
  |(with_reducible exact spec_l12Kern.mono _ _ _ _ _ _ _ _ _ _)
  |(with_reducible exact LeO.refl _)
  |(with_reducible exact LeO.none _)
  |(with_reducible refine LeO.ite ?_ ?_)
  |(with_reducible refine LeO.bind ?_ (fun _=>?_))
  |exact ih0 _ _ _ _ _ _ _ _ _ _
  |exact ih1 _ _ _ _ _ _ _ _ _ _ _
  |exact ih2 _ _ _ _ _ _ _ _ _ _ _
  |exact spec_FontOk.mono _ _ _ _ _ _ _ _
  |exact spec_Shape.mono _ _ _ _ _ _ _ _ _
  |exact spec_l12Advance.mono _ _ _ _ _ _ _ _ _
  |exact spec_l12Kern.mono _ _ _ _ _ _ _ _ _ _
  |exact LeO.none _
  |refine LeO.ite ?_ ?_
  |refine LeO.bind ?_ (fun _=>?_)
theorem spec_Advance.mono:∀ a0 a1 a2 a3 a4 a5 a6 a7 a8 k,LeO (spec_Advance.f k a0 a1 a2 a3 a4 a5 a6 a7 a8) (spec_Advance.f (k+1) a0 a1 a2 a3 a4 a5 a6 a7 a8):=by
 intro a0 a1 a2 a3 a4 a5 a6 a7 a8 k
 obtain ⟨ih0,ih1,ih2⟩:=spec_Advance.mono_l k
 unfold spec_Advance.f
 repeat' first
  |(with_reducible exact ih0 _ _ _ _ _ _ _ _ _ _)
  |(with_reducible exact ih1 _ _ _ _ _ _ _ _ _ _ _)
  |(with_reducible exact ih2 _ _ _ _ _ _ _ _ _ _ _)
  |(with_reducible exact spec_FontOk.mono _ _ _ _ _ _ _ _)
  |(with_reducible exact spec_Shape.mono _ _ _ _ _ _ _ _ _)
  |(with_reducible exact spec_l12Advance.mono _ _ _ _ _ _ _ _ _)
  |(with_reducible exact spec_l12Kern.mono _ _ _ _ _ _ _ _ _ _)
  |(with_reducible exact LeO.refl _)
  |(with_reducible exact LeO.none _)
  |(with_reducible refine LeO.ite ?_ ?_)
  |(with_reducible refine LeO.bind ?_ (fun _=>?_))
  |exact ih0 _ _ _ _ _ _ _ _ _ _
  |exact ih1 _ _ _ _ _ _ _ _ _ _ _
  |exact ih2 _ _ _ _ _ _ _ _ _ _ _
  |exact spec_FontOk.mono _ _ _ _ _ _ _ _
  |exact spec_Shape.mono _ _ _ _ _ _ _ _ _
  |exact spec_l12Advance.mono _ _ _ _ _ _ _ _ _
  |exact spec_l12Kern.mono _ _ _ _ _ _ _ _ _ _
  |exact LeO.none _
  |refine LeO.ite ?_ ?_
  |refine LeO.bind ?_ (fun _=>?_)
def spec_Advance.T14:Bool×List (List Nat×List Nat):=(true,[([],[]),([],[]),([],[]),([],[]),([2,3],[2,3]),([4],[4]),([1,5],[1,5]),([],[]),([6,7],[6,7]),([],[]),([9],[9]),([8,10,6],[8,10]),([0,11],[0,11]),([12,11,0,1,2,3,4,5,6,7,8,9,10,11,12],[0,12])])
def spec_Advance.B14:List Nat:=[0,0,0,0,12,28,62,0,254,0,512,2046,4095,8191]
theorem spec_Advance.tab14:rtab .any (opsOf Try.f16 14)=spec_Advance.T14:=by kernel_rfl
theorem spec_Advance.bits14:waitsOk spec_Advance.T14.2 spec_Advance.B14=true:=by kernel_rfl
def spec_Advance.T16:Bool×List (List Nat×List Nat):=(true,[([],[]),([],[]),([],[]),([],[]),([3],[3]),([2,4],[2,4]),([5],[5]),([],[]),([],[]),([7,8],[7,8]),([9],[9]),([1,6,10],[1,6,10]),([],[]),([11,12],[11,12]),([],[]),([14],[14]),([13,15,11],[13,15]),([0,16],[0,16]),([17,16,0,1,2,3,4,5,6,7,8,9,10,11,12,13,14,15,16,17],[0,17])])
def spec_Advance.B16:List Nat:=[0,0,0,0,8,28,60,0,0,384,896,2046,0,8190,0,16384,65534,131071,262143]
theorem spec_Advance.tab16:rtab .any (opsOf Try.f16 16)=spec_Advance.T16:=by kernel_rfl
theorem spec_Advance.bits16:waitsOk spec_Advance.T16.2 spec_Advance.B16=true:=by kernel_rfl
set_option maxHeartbeats 8000000 in
set_option maxRecDepth 100000 in
theorem spec_Advance.calls (k:Nat) (a0_0:Int) (a0_1:Int) (a0_2:Int) (a0_3:Int) (A0_4:Option Addr) (c0_4:Nat) (l0_4:List (S79)) (A0_5:Option Addr) (c0_5:Nat) (l0_5:List (S81)) (A0_6:Option Addr) (c0_6:Nat) (l0_6:List (S84)) (A1:Option Addr) (c1:Nat) (l1:List Int) (a2:Int) (r:Int) (w:World) (hr0_4:Kd.C k79 w A0_4 l0_4.length l0_4) (hc0_4:l0_4.length≤c0_4) (hr0_5:Kd.C k81 w A0_5 l0_5.length l0_5) (hc0_5:l0_5.length≤c0_5) (hr0_6:Kd.C k84 w A0_6 l0_6.length l0_6) (hc0_6:l0_6.length≤c0_6) (hr1:Kd.C (Kd.int .i64) w A1 l1.length l1) (hc1:l1.length≤c1) (h:spec_Advance.f k a0_0 a0_1 a0_2 a0_3 l0_4 l0_5 l0_6 l1 a2=some r) :
  Calls Try.prog 16 #[.agg #[.int .i64 a0_0,.int .i64 a0_1,.int .i64 a0_2,.int .i64 a0_3,.slice A0_4 l0_4.length c0_4,.slice A0_5 l0_5.length c0_5,.slice A0_6 l0_6.length c0_6],.slice A1 l1.length c1,.int .i64 a2] w fun e w'=>e=.returned (.int .i64 r)∧Below w.heap.size w w':=by
 have hu34:=Try.underlying34
 have HR0_4:=Aside0.mk hr0_4
 have HC0_4:=Aside0.mk hc0_4
 clear hr0_4 hc0_4
 have HR0_5:=Aside0.mk hr0_5
 have HC0_5:=Aside0.mk hc0_5
 clear hr0_5 hc0_5
 have HR0_6:=Aside0.mk hr0_6
 have HC0_6:=Aside0.mk hc0_6
 clear hr0_6 hc0_6
 have HR1:=Aside0.mk hr1
 have HC1:=Aside0.mk hc1
 clear hr1 hc1
 have HB:=Aside0.mk (Below.refl w.heap.size w)
 have H:((spec_FontOk.f k a0_0 a0_1 a0_2 a0_3 l0_4 l0_5 l0_6).bind fun t224=>(if t224=true then (if a2<0 then (spec_Advance.j0 k l1 a2 true a0_0 a0_1 a0_2 a0_3 l0_4 l0_5 l0_6) else (spec_Advance.j0 k l1 a2 (decide (a2 > 64000)) a0_0 a0_1 a0_2 a0_3 l0_4 l0_5 l0_6)) else (spec_Advance.j0 k l1 a2 true a0_0 a0_1 a0_2 a0_3 l0_4 l0_5 l0_6)))=some r:=h
 clear h
 have HC4:=Aside0.mk H
 clear H
 go_enter Try.func16,Try.ntmps16
 go_upto_region 1 with (first|((with_reducible refine gate_dst (N:=3) rfl ?_);refine box_event ?hg (N:=3) ?hd (cs:=#[.int .i64 a0_0,.int .i64 a0_1,.int .i64 a0_2,.int .i64 a0_3,.slice A0_4 l0_4.length c0_4,.slice A0_5 l0_5.length c0_5,.slice A0_6 l0_6.length c0_6]) (t:=34) ?hr ?_;(case hd=>rfl);(case hg=>rfl);(case hr=>first|(go_simp;done)|(go_simp;rfl));intro gb223 hg w5 hbox hb;have n0_:=Aside0.mk (below_step (by repeat (first|(with_reducible first|exact HB.out|apply below_alloc|apply pw_below_drewN|apply below_drew1)|exact HB.out)) hb);have n1_:=Aside0.mk (hbox);have n2_:=Aside0.mk ((by rw [hg];exact (below_size (by repeat (first|(with_reducible first|exact HB.out|apply below_alloc|apply pw_below_drewN|apply below_drew1)|exact HB.out))):w.heap.size≤gb223));have n3_:=Aside0.mk ((by rw [hg];exact (below_size (by repeat (first|(with_reducible first|exact HB.out|apply below_alloc|apply pw_below_drewN|apply below_drew1)|exact HB.out))):w.heap.size≤gb223));clear HB;have HB:=n0_;have BK223:=n1_;have GW223:=n2_;have GE223:=n3_;clear n0_ n1_ n2_ n3_;clear hb hbox hg))
 (try simp only [Act.put,List.setIfInBounds_toArray,List.set_cons_zero,List.set_cons_succ])
 go_cut [21] (fun v21 wc=>∃ (kq:Nat) (x21_3:Bool),v21=.bool x21_3∧Aside0 (spec_Advance.j0 kq l1 a2 x21_3 a0_0 a0_1 a0_2 a0_3 l0_4 l0_5 l0_6=some r)∧Aside0 (kq≤k)∧Aside0 (wc.heap[gb223]?=some (.cells #[.int .i64 a0_0,.int .i64 a0_1,.int .i64 a0_2,.int .i64 a0_3,(.slice A0_4 l0_4.length c0_4),(.slice A0_5 l0_5.length c0_5),(.slice A0_6 l0_6.length c0_6)] 34 (0,0)))∧Aside0 (Below w.heap.size w wc))
 case first=>
  have H:=HC4.out
  clear HC4
  replace H:=Option.bind_eq_some_iff.mp H
  obtain ⟨t224,A60,H⟩:=H
  replace H:(if t224=true then (if a2<0 then (spec_Advance.j0 k l1 a2 true a0_0 a0_1 a0_2 a0_3 l0_4 l0_5 l0_6) else (spec_Advance.j0 k l1 a2 (decide (a2 > 64000)) a0_0 a0_1 a0_2 a0_3 l0_4 l0_5 l0_6)) else (spec_Advance.j0 k l1 a2 true a0_0 a0_1 a0_2 a0_3 l0_4 l0_5 l0_6))=some r:=H
  have A6:=Aside0.mk A60
  clear A60
  by_cases c7:t224=true
  ·subst c7
   have H1:(if a2<0 then (spec_Advance.j0 k l1 a2 true a0_0 a0_1 a0_2 a0_3 l0_4 l0_5 l0_6) else (spec_Advance.j0 k l1 a2 (decide (a2 > 64000)) a0_0 a0_1 a0_2 a0_3 l0_4 l0_5 l0_6))=some r:=by rw [if_pos rfl] at H;exact H
   clear H
   have H:=H1
   clear H1
   by_cases c8:a2<0
   ·rw [if_pos c8] at H
    have c8b0:decide (a2<0)=true:=decide_eq_true c8
    clear c8
    (first|rw [c8b0]|(simp only [i64_w,i32_w];rw [c8b0])|rw [c8b1]|skip)
    have H':=Aside0.mk H
    clear H
    obtain ⟨hcz9_0,hcz9_1,hcz9_2,hcz9_3,hcz9_4,hcz9_5,hcz9_6,hfz9_0,hfz9_1,hfz9_2,hfz9_3,hfz9_4,hfz9_5,hfz9_6⟩:=blkf7 BK223.out
    go_wp2_with (first|((with_reducible refine gate_callee (f:=22) rfl ?_);refine goesL_ (some 12) rfl rfl Try.func22 (by kernel_rfl) rfl #[.agg #[.int .i64 a0_0,.int .i64 a0_1,.int .i64 a0_2,.int .i64 a0_3,.slice A0_4 l0_4.length c0_4,.slice A0_5 l0_5.length c0_5,.slice A0_6 l0_6.length c0_6]] rfl (by (try simp only [List.map_toArray,List.map_cons,List.map_nil]);first|done|rfl|(simp only [List.length_drop,List.length_take];rfl)) ?_;(with_reducible refine (spec_FontOk.calls k a0_0 a0_1 a0_2 a0_3 _ _ l0_4 _ _ l0_5 _ _ l0_6 true _ ?side1 ?side2 ?side3 ?side4 ?side5 ?side6 A6.out).mono ?_);(case side1=>repeat (first|exact (Kd.C_below HR0_4.out HB.out)|(with_reducible refine Kd.C_alloc ?_ _)|(with_reducible refine Kd.C_drewN ?_ _)|(with_reducible refine Kd.C_drew ?_)));(case side2=>exact HC0_4.out);(case side3=>repeat (first|exact (Kd.C_below HR0_5.out HB.out)|(with_reducible refine Kd.C_alloc ?_ _)|(with_reducible refine Kd.C_drewN ?_ _)|(with_reducible refine Kd.C_drew ?_)));(case side4=>exact HC0_5.out);(case side5=>repeat (first|exact (Kd.C_below HR0_6.out HB.out)|(with_reducible refine Kd.C_alloc ?_ _)|(with_reducible refine Kd.C_drewN ?_ _)|(with_reducible refine Kd.C_drew ?_)));(case side6=>exact HC0_6.out);rintro e w10 ⟨rfl,hb⟩;refine ⟨_,rfl,?_⟩;have n0_:=Aside0.mk (blk_below (g:=gb223) (o:=.cells #[.int .i64 a0_0,.int .i64 a0_1,.int .i64 a0_2,.int .i64 a0_3,.slice A0_4 l0_4.length c0_4,.slice A0_5 l0_5.length c0_5,.slice A0_6 l0_6.length c0_6] 34 (0,0)) (by (with_reducible repeat (first|refine blk_drewN ?_ _|refine blk_drew ?_|refine blk_alloc ?_ _));exact BK223.out) hb);have n1_:=Aside0.mk (below_step (by repeat (first|exact HB.out|apply below_alloc|apply pw_below_drewN|apply below_drew1|refine below_set ?_ GE223.out)) hb);clear BK223;clear HB;have BK223:=n0_;have HB:=n1_;clear n0_ n1_;(try clear hb);(try clear hb2);(try clear hk);(try clear hi)))
    go_meet
    case rel=>exact ⟨_,(true),(by first|rfl|(simp;done)|(simp [*];done)),H',⟨by first|omega|exact Nat.le_refl _⟩,⟨by (with_reducible repeat (first|refine blk_drewN ?_ _|refine blk_drew ?_|refine blk_alloc ?_ _));exact BK223.out⟩,⟨by repeat (first|exact HB.out|apply below_alloc|apply pw_below_drewN|apply below_drew1|refine below_set ?_ GE223.out)⟩⟩
   ·rw [if_neg c8] at H
    have c8b0:decide (a2<0)=false:=decide_eq_false c8
    clear c8
    (first|rw [c8b0]|(simp only [i64_w,i32_w];rw [c8b0])|rw [c8b1]|skip)
    have H':=Aside0.mk H
    clear H
    obtain ⟨hcz11_0,hcz11_1,hcz11_2,hcz11_3,hcz11_4,hcz11_5,hcz11_6,hfz11_0,hfz11_1,hfz11_2,hfz11_3,hfz11_4,hfz11_5,hfz11_6⟩:=blkf7 BK223.out
    go_wp2_with (first|((with_reducible refine gate_callee (f:=22) rfl ?_);refine goesL_ (some 12) rfl rfl Try.func22 (by kernel_rfl) rfl #[.agg #[.int .i64 a0_0,.int .i64 a0_1,.int .i64 a0_2,.int .i64 a0_3,.slice A0_4 l0_4.length c0_4,.slice A0_5 l0_5.length c0_5,.slice A0_6 l0_6.length c0_6]] rfl (by (try simp only [List.map_toArray,List.map_cons,List.map_nil]);first|done|rfl|(simp only [List.length_drop,List.length_take];rfl)) ?_;(with_reducible refine (spec_FontOk.calls k a0_0 a0_1 a0_2 a0_3 _ _ l0_4 _ _ l0_5 _ _ l0_6 true _ ?side1 ?side2 ?side3 ?side4 ?side5 ?side6 A6.out).mono ?_);(case side1=>repeat (first|exact (Kd.C_below HR0_4.out HB.out)|(with_reducible refine Kd.C_alloc ?_ _)|(with_reducible refine Kd.C_drewN ?_ _)|(with_reducible refine Kd.C_drew ?_)));(case side2=>exact HC0_4.out);(case side3=>repeat (first|exact (Kd.C_below HR0_5.out HB.out)|(with_reducible refine Kd.C_alloc ?_ _)|(with_reducible refine Kd.C_drewN ?_ _)|(with_reducible refine Kd.C_drew ?_)));(case side4=>exact HC0_5.out);(case side5=>repeat (first|exact (Kd.C_below HR0_6.out HB.out)|(with_reducible refine Kd.C_alloc ?_ _)|(with_reducible refine Kd.C_drewN ?_ _)|(with_reducible refine Kd.C_drew ?_)));(case side6=>exact HC0_6.out);rintro e w12 ⟨rfl,hb⟩;refine ⟨_,rfl,?_⟩;have n0_:=Aside0.mk (blk_below (g:=gb223) (o:=.cells #[.int .i64 a0_0,.int .i64 a0_1,.int .i64 a0_2,.int .i64 a0_3,.slice A0_4 l0_4.length c0_4,.slice A0_5 l0_5.length c0_5,.slice A0_6 l0_6.length c0_6] 34 (0,0)) (by (with_reducible repeat (first|refine blk_drewN ?_ _|refine blk_drew ?_|refine blk_alloc ?_ _));exact BK223.out) hb);have n1_:=Aside0.mk (below_step (by repeat (first|exact HB.out|apply below_alloc|apply pw_below_drewN|apply below_drew1|refine below_set ?_ GE223.out)) hb);clear BK223;clear HB;have BK223:=n0_;have HB:=n1_;clear n0_ n1_;(try clear hb);(try clear hb2);(try clear hk);(try clear hi)))
    go_meet
    case rel=>exact ⟨_,(decide (a2 > 64000)),(by first|rfl|(simp;done)|(simp [*];done)),H',⟨by first|omega|exact Nat.le_refl _⟩,⟨by (with_reducible repeat (first|refine blk_drewN ?_ _|refine blk_drew ?_|refine blk_alloc ?_ _));exact BK223.out⟩,⟨by repeat (first|exact HB.out|apply below_alloc|apply pw_below_drewN|apply below_drew1|refine below_set ?_ GE223.out)⟩⟩
  ·replace c7:=Bool.eq_false_iff.mpr c7
   subst c7
   have H1:(spec_Advance.j0 k l1 a2 true a0_0 a0_1 a0_2 a0_3 l0_4 l0_5 l0_6)=some r:=by rw [if_neg (show ¬ (false=true) by decide)] at H;exact H
   clear H
   have H:=H1
   clear H1
   have H':=Aside0.mk H
   clear H
   obtain ⟨hcz13_0,hcz13_1,hcz13_2,hcz13_3,hcz13_4,hcz13_5,hcz13_6,hfz13_0,hfz13_1,hfz13_2,hfz13_3,hfz13_4,hfz13_5,hfz13_6⟩:=blkf7 BK223.out
   go_wp2_with (first|((with_reducible refine gate_callee (f:=22) rfl ?_);refine goesL_ (some 12) rfl rfl Try.func22 (by kernel_rfl) rfl #[.agg #[.int .i64 a0_0,.int .i64 a0_1,.int .i64 a0_2,.int .i64 a0_3,.slice A0_4 l0_4.length c0_4,.slice A0_5 l0_5.length c0_5,.slice A0_6 l0_6.length c0_6]] rfl (by (try simp only [List.map_toArray,List.map_cons,List.map_nil]);first|done|rfl|(simp only [List.length_drop,List.length_take];rfl)) ?_;(with_reducible refine (spec_FontOk.calls k a0_0 a0_1 a0_2 a0_3 _ _ l0_4 _ _ l0_5 _ _ l0_6 false _ ?side1 ?side2 ?side3 ?side4 ?side5 ?side6 A6.out).mono ?_);(case side1=>repeat (first|exact (Kd.C_below HR0_4.out HB.out)|(with_reducible refine Kd.C_alloc ?_ _)|(with_reducible refine Kd.C_drewN ?_ _)|(with_reducible refine Kd.C_drew ?_)));(case side2=>exact HC0_4.out);(case side3=>repeat (first|exact (Kd.C_below HR0_5.out HB.out)|(with_reducible refine Kd.C_alloc ?_ _)|(with_reducible refine Kd.C_drewN ?_ _)|(with_reducible refine Kd.C_drew ?_)));(case side4=>exact HC0_5.out);(case side5=>repeat (first|exact (Kd.C_below HR0_6.out HB.out)|(with_reducible refine Kd.C_alloc ?_ _)|(with_reducible refine Kd.C_drewN ?_ _)|(with_reducible refine Kd.C_drew ?_)));(case side6=>exact HC0_6.out);rintro e w14 ⟨rfl,hb⟩;refine ⟨_,rfl,?_⟩;have n0_:=Aside0.mk (blk_below (g:=gb223) (o:=.cells #[.int .i64 a0_0,.int .i64 a0_1,.int .i64 a0_2,.int .i64 a0_3,.slice A0_4 l0_4.length c0_4,.slice A0_5 l0_5.length c0_5,.slice A0_6 l0_6.length c0_6] 34 (0,0)) (by (with_reducible repeat (first|refine blk_drewN ?_ _|refine blk_drew ?_|refine blk_alloc ?_ _));exact BK223.out) hb);have n1_:=Aside0.mk (below_step (by repeat (first|exact HB.out|apply below_alloc|apply pw_below_drewN|apply below_drew1|refine below_set ?_ GE223.out)) hb);clear BK223;clear HB;have BK223:=n0_;have HB:=n1_;clear n0_ n1_;(try clear hb);(try clear hb2);(try clear hk);(try clear hi)))
   go_meet
   case rel=>exact ⟨_,(true),(by first|rfl|(simp;done)|(simp [*];done)),H',⟨by first|omega|exact Nat.le_refl _⟩,⟨by (with_reducible repeat (first|refine blk_drewN ?_ _|refine blk_drew ?_|refine blk_alloc ?_ _));exact BK223.out⟩,⟨by repeat (first|exact HB.out|apply below_alloc|apply pw_below_drewN|apply below_drew1|refine below_set ?_ GE223.out)⟩⟩
 case rest=>
  clear HC4
  try clear c1;try clear c2;try clear p2;try clear c7;try clear c8;try clear c8b0;try clear hcz11_0;try clear hcz11_1;try clear hcz11_2;try clear hcz11_3;try clear hcz11_4;try clear hcz11_5;try clear hcz11_6;try clear hcz13_0;try clear hcz13_1;try clear hcz13_2;try clear hcz13_3;try clear hcz13_4;try clear hcz13_5;try clear hcz13_6;try clear hcz9_0;try clear hcz9_1;try clear hcz9_2;try clear hcz9_3;try clear hcz9_4;try clear hcz9_5;try clear hcz9_6;try clear hfz11_0;try clear hfz11_1;try clear hfz11_2;try clear hfz11_3;try clear hfz11_4;try clear hfz11_5;try clear hfz11_6;try clear hfz13_0;try clear hfz13_1;try clear hfz13_2;try clear hfz13_3;try clear hfz13_4;try clear hfz13_5;try clear hfz13_6;try clear hfz9_0;try clear hfz9_1;try clear hfz9_2;try clear hfz9_3;try clear hfz9_4;try clear hfz9_5;try clear hfz9_6
  obtain ⟨kq,x21_3,rfl,HA,HJ3,BK223,HB⟩:=hcut
  cases kq with
 |zero=>exact absurd HA.out (by simp [spec_Advance.j0])
 |succ kj3=>
   have H:=HA.out
   clear HA
   simp only [spec_Advance.j0] at H
   by_cases c15:x21_3=true
   ·subst c15
    have H1:(some 0)=some r:=by rw [if_pos rfl] at H;exact H
    clear H
    have H:=H1
    clear H1
    obtain rfl:=Option.some.inj H
    go_wp2
    go_ret
    exact ⟨by first|rfl|(simp [errW_none,errW_some]<;>rfl)|(simp [*,errW_none,errW_some]<;>rfl),by repeat (first|exact HB.out|apply below_alloc|apply pw_below_drewN|apply below_drew1|refine below_set ?_ GE223.out)⟩
   ·replace c15:=Bool.eq_false_iff.mpr c15
    subst c15
    have H1:(spec_Advance.l0 kj3 l1 a2 (([]:List Int)) 0 a0_0 a0_1 a0_2 a0_3 l0_4 l0_5 l0_6)=some r:=by rw [if_neg (show ¬ (false=true) by decide)] at H;exact H
    clear H
    have H:=H1
    clear H1
    obtain ⟨y225,hy225⟩:∃ y_:List Int,y_=(([]:List Int)):=⟨_,rfl⟩
    replace H:(spec_Advance.l0 kj3 l1 a2 y225 0 a0_0 a0_1 a0_2 a0_3 l0_4 l0_5 l0_6)=some r:=by first|(rw [hy225];with_reducible exact H)|(have H2_:=(Option.bind_some _ _).symm.trans H;rw [hy225];with_reducible exact H2_)|(have H2_:=(Option.bind_some _ _).symm.trans H;with_reducible exact H2_)|with_reducible exact H|(rw [hy225];exact H)|exact H
    have Ny225:=Aside0.mk hy225
    clear hy225
    have H':=Aside0.mk H
    clear H
    go_wp2_with (first|((with_reducible refine gate_dst (N:=22) rfl ?_);refine Kd.R_lit (Kd.int .i64) _ 3 ?hg (N:=22) ?hd (xs:=([]:List Int)) (inner:=[]) (ok:=fun _=>True) (okp:=fun _=>True) ?hr ?hp (fun _ hk=>hk) trivial (Below.refl _ _) (Nat.le_refl _) (by simp) ?_;(case hd=>rfl);(case hg=>rfl);(case hr=>first|(go_simp;done)|(go_simp;rfl));(case hp=>exact (Reps.none _ _));intro v226 w16 ho17 hb hg_ hnew_;clear hg_ hnew_;(first|rw [← Ny225.out] at ho17|(simp only [Int.reduceToNat] at ho17;rw [← Ny225.out] at ho17));have n0_:=Aside0.mk (Kd.R_lower ho17 (below_size (by repeat (first|exact HB.out|apply below_alloc|apply pw_below_drewN|apply below_drew1|refine below_set ?_ GE223.out))));have n1_:=Aside0.mk (blk_below (g:=gb223) (o:=.cells #[.int .i64 a0_0,.int .i64 a0_1,.int .i64 a0_2,.int .i64 a0_3,.slice A0_4 l0_4.length c0_4,.slice A0_5 l0_5.length c0_5,.slice A0_6 l0_6.length c0_6] 34 (0,0)) (by (with_reducible repeat (first|refine blk_drewN ?_ _|refine blk_drew ?_|refine blk_alloc ?_ _));exact BK223.out) hb);have n2_:=Aside0.mk (below_step (by repeat (first|exact HB.out|apply below_alloc|apply pw_below_drewN|apply below_drew1|refine below_set ?_ GE223.out)) hb);clear BK223;clear HB;have HO227:=n0_;have BK223:=n1_;have HB:=n2_;clear n0_ n1_ n2_;clear hb ho17))
    go_loopg [7,8] kj3 (fun kq v7 v8 w'=>∃ (x7_2:List Int) (x8_2:Int),v8=.int .i64 x8_2∧Aside0 (spec_Advance.l0 kq l1 a2 x7_2 x8_2 a0_0 a0_1 a0_2 a0_3 l0_4 l0_5 l0_6=some r)∧Aside0 (kq≤kj3)∧Aside0 (Kd.R (Kd.int .i64) 3 w' w.heap.size (fun _=>True) v7 x7_2)∧Aside0 (w'.heap[gb223]?=some (.cells #[.int .i64 a0_0,.int .i64 a0_1,.int .i64 a0_2,.int .i64 a0_3,(.slice A0_4 l0_4.length c0_4),(.slice A0_5 l0_5.length c0_5),(.slice A0_6 l0_6.length c0_6)] 34 (0,0)))∧Aside0 (Below w.heap.size w w'))
    case atStart=>exact ⟨(y225),(0),(by first|rfl|(simp;done)|(simp [*];done)),H',⟨Nat.le_refl _⟩,⟨by (with_reducible repeat (first|apply Kd.R_alloc|apply Kd.R_drewN|apply Kd.R_drew));exact HO227.out⟩,⟨by (with_reducible repeat (first|refine blk_drewN ?_ _|refine blk_drew ?_|refine blk_alloc ?_ _));exact BK223.out⟩,⟨by repeat (first|exact HB.out|apply below_alloc|apply pw_below_drewN|apply below_drew1|refine below_set ?_ GE223.out)⟩⟩
    case round=>
     clear H'
     try clear c1;try clear c2;try clear p2;try clear c7;try clear c8;try clear c8b0;try clear c15;try clear c16;try clear hcz11_0;try clear hcz11_1;try clear hcz11_2;try clear hcz11_3;try clear hcz11_4;try clear hcz11_5;try clear hcz11_6;try clear hcz13_0;try clear hcz13_1;try clear hcz13_2;try clear hcz13_3;try clear hcz13_4;try clear hcz13_5;try clear hcz13_6;try clear hcz9_0;try clear hcz9_1;try clear hcz9_2;try clear hcz9_3;try clear hcz9_4;try clear hcz9_5;try clear hcz9_6;try clear hfz11_0;try clear hfz11_1;try clear hfz11_2;try clear hfz11_3;try clear hfz11_4;try clear hfz11_5;try clear hfz11_6;try clear hfz13_0;try clear hfz13_1;try clear hfz13_2;try clear hfz13_3;try clear hfz13_4;try clear hfz13_5;try clear hfz13_6;try clear hfz9_0;try clear hfz9_1;try clear hfz9_2;try clear hfz9_3;try clear hfz9_4;try clear hfz9_5;try clear hfz9_6;try clear p2
     obtain ⟨x7_2,x8_2,rfl,HA,HK2,HO_7,BK223,HB⟩:=hrel
     cases gk with
    |zero=>exact absurd HA.out (by simp [spec_Advance.l0])
    |succ k2=>
      have H:=HA.out
      clear HA
      simp only [spec_Advance.l0] at H
      by_cases c18:x8_2<(l1.length:Int)
      ·rw [if_pos c18] at H
       have c18b0:decide (x8_2<(l1.length:Int))=true:=decide_eq_true c18
       clear c18
       by_cases c19:0≤x8_2
       ·rw [if_pos c19] at H
        have c19b0:decide (0≤x8_2)=true:=decide_eq_true c19
        clear c19
        replace H:=Option.bind_eq_some_iff.mp H
        obtain ⟨t229,A200,H⟩:=H
        replace H:(if t229=true then (spec_Advance.l0 k2 l1 a2 x7_2 (wrap64 (x8_2+1)) a0_0 a0_1 a0_2 a0_3 l0_4 l0_5 l0_6) else (if x7_2.length<17592186044416 then (spec_Advance.l0 k2 l1 a2 (x7_2++[rd l1 x8_2]) (wrap64 (x8_2+1)) a0_0 a0_1 a0_2 a0_3 l0_4 l0_5 l0_6) else (none)))=some r:=H
        have A20:=Aside0.mk A200
        clear A200
        by_cases c21:t229=true
        ·subst c21
         have H1:(spec_Advance.l0 k2 l1 a2 x7_2 (wrap64 (x8_2+1)) a0_0 a0_1 a0_2 a0_3 l0_4 l0_5 l0_6)=some r:=by rw [if_pos rfl] at H;exact H
         clear H
         have H:=H1
         clear H1
         have H':=Aside0.mk H
         clear H
         have p228:0≤(x8_2:Int):=of_decide_eq_true (by first|(with_reducible assumption)|assumption)
         have q228:x8_2<(l1.length:Int):=of_decide_eq_true (by first|(with_reducible assumption)|assumption)
         obtain ⟨ad228,e228,hx228_0⟩:=Kd.at_int HR1.out x8_2 p228 q228
         cases e228
         replace hx228_0:=pw_cell_below HB.out hx228_0
         replace p228:=eq_true p228
         replace q228:=eq_true q228
         go_wp2_with (first|((with_reducible refine gate_callee (f:=40) rfl ?_);refine goesL_ (some 33) rfl rfl Try.func40 (by kernel_rfl) rfl #[.int .i64 (rd l1 x8_2)] rfl (by (try simp only [List.map_toArray,List.map_cons,List.map_nil]);first|done|rfl|(simp only [List.length_drop,List.length_take];rfl)) ?_;(with_reducible refine (spec_l12Silent.calls (rd l1 x8_2) true _ A20.out).mono ?_);rintro e w' ⟨rfl,⟨nd,rfl⟩⟩;refine ⟨_,rfl,?_⟩))
         go_roundg k2
         case measure=>have:=HJ3.out;have:=HK2.out;omega
         case rel=>exact ⟨(x7_2),(wrap64 (x8_2+1)),(by first|rfl|(simp;done)|(simp [*];done)),H',⟨by have:=HJ3.out;have:=HK2.out;omega⟩,⟨by (with_reducible repeat (first|apply Kd.R_alloc|apply Kd.R_drewN|apply Kd.R_drew));exact HO_7.out⟩,⟨by (with_reducible repeat (first|refine blk_drewN ?_ _|refine blk_drew ?_|refine blk_alloc ?_ _));exact BK223.out⟩,⟨by repeat (first|exact HB.out|apply below_alloc|apply pw_below_drewN|apply below_drew1|refine below_set ?_ GE223.out)⟩⟩
        ·replace c21:=Bool.eq_false_iff.mpr c21
         subst c21
         have H1:(if x7_2.length<17592186044416 then (spec_Advance.l0 k2 l1 a2 (x7_2++[rd l1 x8_2]) (wrap64 (x8_2+1)) a0_0 a0_1 a0_2 a0_3 l0_4 l0_5 l0_6) else (none))=some r:=by rw [if_neg (show ¬ (false=true) by decide)] at H;exact H
         clear H
         have H:=H1
         clear H1
         by_cases c22:x7_2.length<17592186044416
         ·rw [if_pos c22] at H
          have LMc22:=Aside0.mk c22
          clear c22
          obtain ⟨y231,hy231⟩:∃ y_:List Int,y_=(x7_2++[rd l1 x8_2]):=⟨_,rfl⟩
          replace H:(spec_Advance.l0 k2 l1 a2 y231 (wrap64 (x8_2+1)) a0_0 a0_1 a0_2 a0_3 l0_4 l0_5 l0_6)=some r:=by first|(rw [hy231];with_reducible exact H)|(have H2_:=(Option.bind_some _ _).symm.trans H;rw [hy231];with_reducible exact H2_)|(have H2_:=(Option.bind_some _ _).symm.trans H;with_reducible exact H2_)|with_reducible exact H|(rw [hy231];exact H)|exact H
          have Ny231:=Aside0.mk hy231
          clear hy231
          have H':=Aside0.mk H
          clear H
          have p228:0≤(x8_2:Int):=of_decide_eq_true (by first|(with_reducible assumption)|assumption)
          have q228:x8_2<(l1.length:Int):=of_decide_eq_true (by first|(with_reducible assumption)|assumption)
          obtain ⟨ad228,e228,hx228_0⟩:=Kd.at_int HR1.out x8_2 p228 q228
          cases e228
          replace hx228_0:=pw_cell_below HB.out hx228_0
          replace p228:=eq_true p228
          replace q228:=eq_true q228
          go_wp2_with (first|((with_reducible refine gate_callee (f:=40) rfl ?_);refine goesL_ (some 33) rfl rfl Try.func40 (by kernel_rfl) rfl #[.int .i64 (rd l1 x8_2)] rfl (by (try simp only [List.map_toArray,List.map_cons,List.map_nil]);first|done|rfl|(simp only [List.length_drop,List.length_take];rfl)) ?_;(with_reducible refine (spec_l12Silent.calls (rd l1 x8_2) false _ A20.out).mono ?_);rintro e w' ⟨rfl,⟨nd,rfl⟩⟩;refine ⟨_,rfl,?_⟩;have p230:0≤(x8_2:Int):=of_decide_eq_true (by first|(with_reducible assumption)|assumption);have q230:x8_2<(l1.length:Int):=of_decide_eq_true (by first|(with_reducible assumption)|assumption);obtain ⟨ad230,e230,hx230_0⟩:=Kd.at_int HR1.out x8_2 p230 q230;obtain rfl:ad228=ad230:=(by injection e230);replace hx230_0:=pw_cell_below HB.out hx230_0;replace p230:=eq_true p230;replace q230:=eq_true q230)|((with_reducible refine gate_builtin (b:=.append) (xs:=#[.tmp 35,.tmp 40]) rfl ?_);at_builtin;refine Kd.R_append (Kd.int .i64) (w0:=w) w.heap.size rfl (.tmp 35) (.tmp 40) 27 3 (.int .i64 0) 8 rfl Try.underlying27 info3 rfl (by decide) (by omega) u7 x7_2 (rd l1 x8_2) [.int .i64 (rd l1 x8_2)] (fun _=>True) (fun _=>False) rfl rfl ?aP (fun _ hk=>hk.elim) ?aF ?aO ?aB ?aS ?aL ?_;(case aP=>exact rfl);(case aB=>exact (by repeat (first|exact HB.out|apply below_alloc|apply pw_below_drewN|apply below_drew1|refine below_set ?_ GE223.out)));(case aF=>exact (fun _ _=>trivial));(case aO=>exact (by (with_reducible repeat (first|apply Kd.R_alloc|apply Kd.R_drewN|apply Kd.R_drew));exact HO_7.out));(case aS=>exact (below_size (by repeat (first|exact HB.out|apply below_alloc|apply pw_below_drewN|apply below_drew1|refine below_set ?_ GE223.out))));(case aL=>have:=LMc22.out;omega);intro v232 w23 ho hb hg hat;rw [← Ny231.out] at ho;have n0_:=Aside0.mk (blk_grown (g:=gb223) (o:=.cells #[.int .i64 a0_0,.int .i64 a0_1,.int .i64 a0_2,.int .i64 a0_3,.slice A0_4 l0_4.length c0_4,.slice A0_5 l0_5.length c0_5,.slice A0_6 l0_6.length c0_6] 34 (0,0)) (by (with_reducible repeat (first|refine blk_drewN ?_ _|refine blk_drew ?_|refine blk_alloc ?_ _));exact BK223.out) hg (Kd.R_ne HO_7.out BK223.out (by decide)));have n1_:=Aside0.mk (hb);have n2_:=Aside0.mk (ho);clear BK223;clear HB;clear HO_7;have BK223:=n0_;have HB:=n1_;have HO233:=n2_;clear n0_ n1_ n2_;clear ho hb hg hat))
          go_roundg k2
          case measure=>have:=HJ3.out;have:=HK2.out;omega
          case rel=>exact ⟨(y231),(wrap64 (x8_2+1)),(by first|rfl|(simp;done)|(simp [*];done)),H',⟨by have:=HJ3.out;have:=HK2.out;omega⟩,⟨by (with_reducible repeat (first|apply Kd.R_alloc|apply Kd.R_drewN|apply Kd.R_drew));exact HO233.out⟩,⟨by (with_reducible repeat (first|refine blk_drewN ?_ _|refine blk_drew ?_|refine blk_alloc ?_ _));exact BK223.out⟩,⟨by repeat (first|exact HB.out|apply below_alloc|apply pw_below_drewN|apply below_drew1|refine below_set ?_ GE223.out)⟩⟩
         ·rw [if_neg c22] at H
          exact absurd H (by simp)
       ·rw [if_neg c19] at H
        exact absurd H (by simp)
      ·rw [if_neg c18] at H
       have c18b0:decide (x8_2<(l1.length:Int))=false:=decide_eq_false c18
       clear c18
       replace H:=Option.bind_eq_some_iff.mp H
       obtain ⟨t234,A240,H⟩:=H
       replace H:(spec_Advance.l1 k2 a2 t234 0 0 a0_0 a0_1 a0_2 a0_3 l0_4 l0_5 l0_6)=some r:=H
       have A24:=Aside0.mk A240
       clear A240
       have H':=Aside0.mk H
       clear H
       obtain ⟨hcz25_0,hcz25_1,hcz25_2,hcz25_3,hcz25_4,hcz25_5,hcz25_6,hfz25_0,hfz25_1,hfz25_2,hfz25_3,hfz25_4,hfz25_5,hfz25_6⟩:=blkf7 BK223.out
       obtain ⟨Ao26,co26,eo26⟩:=Kd.R_slice HO_7.out
       subst eo26
       go_wp2_with (first|((with_reducible refine gate_callee (f:=7) rfl ?_);refine goesL_ (some 44) rfl rfl Try.func7 (by kernel_rfl) rfl #[.agg #[.int .i64 a0_0,.int .i64 a0_1,.int .i64 a0_2,.int .i64 a0_3,.slice A0_4 l0_4.length c0_4,.slice A0_5 l0_5.length c0_5,.slice A0_6 l0_6.length c0_6],.slice Ao26 x7_2.length co26] rfl (by (try simp only [List.map_toArray,List.map_cons,List.map_nil]);first|done|rfl|(simp only [List.length_drop,List.length_take];rfl)) ?_;(with_reducible refine (spec_Shape.calls k2 a0_0 a0_1 a0_2 a0_3 _ _ l0_4 _ _ l0_5 _ _ l0_6 _ _ x7_2 t234 _ ?side1 ?side2 ?side3 ?side4 ?side5 ?side6 ?side7 ?side8 A24.out).mono ?_);(case side1=>repeat (first|exact (Kd.C_below HR0_4.out HB.out)|(with_reducible refine Kd.C_alloc ?_ _)|(with_reducible refine Kd.C_drewN ?_ _)|(with_reducible refine Kd.C_drew ?_)));(case side2=>exact HC0_4.out);(case side3=>repeat (first|exact (Kd.C_below HR0_5.out HB.out)|(with_reducible refine Kd.C_alloc ?_ _)|(with_reducible refine Kd.C_drewN ?_ _)|(with_reducible refine Kd.C_drew ?_)));(case side4=>exact HC0_5.out);(case side5=>repeat (first|exact (Kd.C_below HR0_6.out HB.out)|(with_reducible refine Kd.C_alloc ?_ _)|(with_reducible refine Kd.C_drewN ?_ _)|(with_reducible refine Kd.C_drew ?_)));(case side6=>exact HC0_6.out);(case side7=>repeat (first|exact (Kd.R_reads' HO_7.out).2.2|(with_reducible refine Kd.C_alloc ?_ _)|(with_reducible refine Kd.C_drewN ?_ _)|(with_reducible refine Kd.C_drew ?_)));(case side8=>exact (Kd.R_reads' HO_7.out).2.1);rintro e w27 ⟨v235,rfl,ho0,hb⟩;refine ⟨_,rfl,?_⟩;have n0_:=Aside0.mk (Kd.R_elder' (by (with_reducible repeat (first|apply Kd.R_alloc|apply Kd.R_drewN|apply Kd.R_drew));exact HO_7.out) (Kd.R_base ho0) hb);have n1_:=Aside0.mk (Kd.R_lower (Kd.R_new' ho0 (Kd.R_lt (by (with_reducible repeat (first|apply Kd.R_alloc|apply Kd.R_drewN|apply Kd.R_drew));exact HO_7.out))) (below_size (by repeat (first|exact HB.out|apply below_alloc|apply pw_below_drewN|apply below_drew1|refine below_set ?_ GE223.out))));have n2_:=Aside0.mk (blk_below (g:=gb223) (o:=.cells #[.int .i64 a0_0,.int .i64 a0_1,.int .i64 a0_2,.int .i64 a0_3,.slice A0_4 l0_4.length c0_4,.slice A0_5 l0_5.length c0_5,.slice A0_6 l0_6.length c0_6] 34 (0,0)) (by (with_reducible repeat (first|refine blk_drewN ?_ _|refine blk_drew ?_|refine blk_alloc ?_ _));exact BK223.out) hb);have n3_:=Aside0.mk (below_step (by repeat (first|exact HB.out|apply below_alloc|apply pw_below_drewN|apply below_drew1|refine below_set ?_ GE223.out)) hb);clear HO_7;clear BK223;clear HB;have HO_7:=n0_;have HO236:=n1_;have BK223:=n2_;have HB:=n3_;clear n0_ n1_ n2_ n3_;(try clear hb);(try clear hb2);(try clear hk);(try clear hi);(try clear ho0)))
       go_loopg [9,10] k2 (fun kq v9 v10 w'=>∃ (x9_3:Int) (x10_3:Int),v9=.int .i64 x9_3∧v10=.int .i64 x10_3∧Aside0 (spec_Advance.l1 kq a2 t234 x9_3 x10_3 a0_0 a0_1 a0_2 a0_3 l0_4 l0_5 l0_6=some r)∧Aside0 (kq≤k2)∧Aside0 (Kd.R (Kd.int .i64) 3 w' w.heap.size (fun _=>True) v235 t234)∧Aside0 (w'.heap[gb223]?=some (.cells #[.int .i64 a0_0,.int .i64 a0_1,.int .i64 a0_2,.int .i64 a0_3,(.slice A0_4 l0_4.length c0_4),(.slice A0_5 l0_5.length c0_5),(.slice A0_6 l0_6.length c0_6)] 34 (0,0)))∧Aside0 (Below w.heap.size w w'))
       case atStart=>exact ⟨(0),(0),(by first|rfl|(simp;done)|(simp [*];done)),(by first|rfl|(simp;done)|(simp [*];done)),H',⟨Nat.le_refl _⟩,⟨by (with_reducible repeat (first|apply Kd.R_alloc|apply Kd.R_drewN|apply Kd.R_drew));exact Kd.R_mono HO236.out (fun _ hk=>trivial)⟩,⟨by (with_reducible repeat (first|refine blk_drewN ?_ _|refine blk_drew ?_|refine blk_alloc ?_ _));exact BK223.out⟩,⟨by repeat (first|exact HB.out|apply below_alloc|apply pw_below_drewN|apply below_drew1|refine below_set ?_ GE223.out)⟩⟩
       case round=>
        clear H'
        try clear c1;try clear c2;try clear p2;try clear q2;try clear hx2;try clear c4;try clear p6;try clear c7;try clear c8;try clear c8b0;try clear c15;try clear c16;try clear c18;try clear c18b0;try clear c19;try clear c19b0;try clear c21;try clear c22;try clear p22;try clear q22;try clear hx22;try clear p23;try clear q23;try clear hx23;try clear hcz11_0;try clear hcz11_1;try clear hcz11_2;try clear hcz11_3;try clear hcz11_4;try clear hcz11_5;try clear hcz11_6;try clear hcz13_0;try clear hcz13_1;try clear hcz13_2;try clear hcz13_3;try clear hcz13_4;try clear hcz13_5;try clear hcz13_6;try clear hcz25_0;try clear hcz25_1;try clear hcz25_2;try clear hcz25_3;try clear hcz25_4;try clear hcz25_5;try clear hcz25_6;try clear hcz9_0;try clear hcz9_1;try clear hcz9_2;try clear hcz9_3;try clear hcz9_4;try clear hcz9_5;try clear hcz9_6;try clear hfz11_0;try clear hfz11_1;try clear hfz11_2;try clear hfz11_3;try clear hfz11_4;try clear hfz11_5;try clear hfz11_6;try clear hfz13_0;try clear hfz13_1;try clear hfz13_2;try clear hfz13_3;try clear hfz13_4;try clear hfz13_5;try clear hfz13_6;try clear hfz25_0;try clear hfz25_1;try clear hfz25_2;try clear hfz25_3;try clear hfz25_4;try clear hfz25_5;try clear hfz25_6;try clear hfz9_0;try clear hfz9_1;try clear hfz9_2;try clear hfz9_3;try clear hfz9_4;try clear hfz9_5;try clear hfz9_6;try clear hx228_0;try clear hx230_0;try clear p2;try clear p228;try clear p230;try clear q228;try clear q230
        obtain ⟨x9_3,x10_3,rfl,rfl,HA,HK3,HO_7,BK223,HB⟩:=hrel
        cases gk with
       |zero=>exact absurd HA.out (by simp [spec_Advance.l1])
       |succ k3=>
         have H:=HA.out
         clear HA
         simp only [spec_Advance.l1] at H
         by_cases c28:x10_3<(t234.length:Int)
         ·rw [if_pos c28] at H
          have c28b0:decide (x10_3<(t234.length:Int))=true:=decide_eq_true c28
          clear c28
          by_cases c29:0≤x10_3
          ·rw [if_pos c29] at H
           have c29b0:decide (0≤x10_3)=true:=decide_eq_true c29
           clear c29
           replace H:=Option.bind_eq_some_iff.mp H
           obtain ⟨t239,A300,H⟩:=H
           replace H:((spec_l9Floor.f (wrap64 (t239*a2)) a0_0).bind fun t240=>(if x10_3 > 0 then (if 0≤(wrap64 (x10_3 - 1)) then (if (wrap64 (x10_3 - 1))<(t234.length:Int) then ((spec_l12Kern.f k3 a0_0 a0_1 a0_2 a0_3 l0_4 l0_5 l0_6 (rd t234 (wrap64 (x10_3 - 1))) (rd t234 x10_3)).bind fun t243=>((spec_l9Floor.f (wrap64 (t243*a2)) a0_0).bind fun t244=>(spec_Advance.l1 k3 a2 t234 (wrap64 ((wrap64 (x9_3+t240))+t244)) (wrap64 (x10_3+1)) a0_0 a0_1 a0_2 a0_3 l0_4 l0_5 l0_6))) else (none)) else (none)) else (spec_Advance.l1 k3 a2 t234 (wrap64 (x9_3+t240)) (wrap64 (x10_3+1)) a0_0 a0_1 a0_2 a0_3 l0_4 l0_5 l0_6)))=some r:=H
           have A30:=Aside0.mk A300
           clear A300
           replace H:=Option.bind_eq_some_iff.mp H
           obtain ⟨t240,A310,H⟩:=H
           replace H:(if x10_3 > 0 then (if 0≤(wrap64 (x10_3 - 1)) then (if (wrap64 (x10_3 - 1))<(t234.length:Int) then ((spec_l12Kern.f k3 a0_0 a0_1 a0_2 a0_3 l0_4 l0_5 l0_6 (rd t234 (wrap64 (x10_3 - 1))) (rd t234 x10_3)).bind fun t243=>((spec_l9Floor.f (wrap64 (t243*a2)) a0_0).bind fun t244=>(spec_Advance.l1 k3 a2 t234 (wrap64 ((wrap64 (x9_3+t240))+t244)) (wrap64 (x10_3+1)) a0_0 a0_1 a0_2 a0_3 l0_4 l0_5 l0_6))) else (none)) else (none)) else (spec_Advance.l1 k3 a2 t234 (wrap64 (x9_3+t240)) (wrap64 (x10_3+1)) a0_0 a0_1 a0_2 a0_3 l0_4 l0_5 l0_6))=some r:=H
           have A31:=Aside0.mk A310
           clear A310
           by_cases c32:x10_3 > 0
           ·rw [if_pos c32] at H
            have c32b0:decide (0<x10_3)=true:=decide_eq_true c32
            clear c32
            obtain ⟨ji33,hji33⟩:∃ j_:Int,(wrap64 (x10_3 - 1))=j_:=⟨_,rfl⟩
            replace H:(if 0≤(ji33) then (if (ji33)<(t234.length:Int) then ((spec_l12Kern.f k3 a0_0 a0_1 a0_2 a0_3 l0_4 l0_5 l0_6 (rd t234 (ji33)) (rd t234 x10_3)).bind fun t243=>((spec_l9Floor.f (wrap64 (t243*a2)) a0_0).bind fun t244=>(spec_Advance.l1 k3 a2 t234 (wrap64 ((wrap64 (x9_3+t240))+t244)) (wrap64 (x10_3+1)) a0_0 a0_1 a0_2 a0_3 l0_4 l0_5 l0_6))) else (none)) else (none))=some r:=by first|(rw [hji33] at H;exact H)|(simp only [hji33] at H ⊢;exact H)
            (try rw [hji33] at A30)
            (try rw [hji33] at A31)
            have hji33w:(IntKind.i64.wrap (x10_3 - 1))=ji33:=(i64_w _).trans hji33
            by_cases c34:0≤(ji33)
            ·rw [if_pos c34] at H
             have c34b0:decide (0≤(ji33))=true:=decide_eq_true c34
             clear c34
             by_cases c35:(ji33)<(t234.length:Int)
             ·rw [if_pos c35] at H
              have c35b0:decide ((ji33)<(t234.length:Int))=true:=decide_eq_true c35
              clear c35
              replace H:=Option.bind_eq_some_iff.mp H
              obtain ⟨t243,A360,H⟩:=H
              replace H:((spec_l9Floor.f (wrap64 (t243*a2)) a0_0).bind fun t244=>(spec_Advance.l1 k3 a2 t234 (wrap64 ((wrap64 (x9_3+t240))+t244)) (wrap64 (x10_3+1)) a0_0 a0_1 a0_2 a0_3 l0_4 l0_5 l0_6))=some r:=H
              have A36:=Aside0.mk A360
              clear A360
              replace H:=Option.bind_eq_some_iff.mp H
              obtain ⟨t244,A370,H⟩:=H
              replace H:(spec_Advance.l1 k3 a2 t234 (wrap64 ((wrap64 (x9_3+t240))+t244)) (wrap64 (x10_3+1)) a0_0 a0_1 a0_2 a0_3 l0_4 l0_5 l0_6)=some r:=H
              have A37:=Aside0.mk A370
              clear A370
              have H':=Aside0.mk H
              clear H
              obtain ⟨Ao38,co38,eo38⟩:=Kd.R_slice HO_7.out
              subst eo38
              try go_wp2
              have n0_:=Aside0.mk (Kd.R_drew HO_7.out)
              have n1_:=Aside0.mk (blk_drew BK223.out)
              have n2_:=Aside0.mk (below_drew1 HB.out)
              clear HO_7
              clear BK223
              clear HB
              have HO_7:=n0_
              have BK223:=n1_
              have HB:=n2_
              clear n0_ n1_ n2_
              have p238:0≤(x10_3:Int):=of_decide_eq_true (by first|(with_reducible assumption)|assumption)
              have q238:x10_3<(t234.length:Int):=of_decide_eq_true (by first|(with_reducible assumption)|assumption)
              obtain ⟨ad238,e238,hx238_0⟩:=Kd.at_int (Kd.R_reads' HO_7.out).2.2 x10_3 p238 q238
              cases e238
              replace p238:=eq_true p238
              replace q238:=eq_true q238
              refine start_ (n:=14) (S:=fun w'=>w'.cell? ⟨gb223,0,none⟩=some (.int .i64 a0_0)∧w'.cell? ⟨gb223,1,none⟩=some (.int .i64 a0_1)∧w'.cell? ⟨gb223,2,none⟩=some (.int .i64 a0_2)∧w'.cell? ⟨gb223,3,none⟩=some (.int .i64 a0_3)∧w'.cell? ⟨gb223,4,none⟩=some (.slice A0_4 l0_4.length c0_4)∧w'.cell? ⟨gb223,5,none⟩=some (.slice A0_5 l0_5.length c0_5)∧w'.cell? ⟨gb223,6,none⟩=some (.slice A0_6 l0_6.length c0_6)∧w'.cell? (ad238.add (x10_3).toNat)=some (.int .i64 (rd t234 x10_3))) (ds:=[]) #[false,false,false,false,false,false,false,false,false,false,false,false,false,false] (by kernel_rfl) rfl rfl ⟨(blk_cell BK223.out 0).trans rfl,(blk_cell BK223.out 1).trans rfl,(blk_cell BK223.out 2).trans rfl,(blk_cell BK223.out 3).trans rfl,(blk_cell BK223.out 4).trans rfl,(blk_cell BK223.out 5).trans rfl,(blk_cell BK223.out 6).trans rfl,hx238_0⟩ (fun hHeld=>?_);refine with_tabW spec_Advance.tab14 spec_Advance.bits14 (fun HT_ HW_=>?_)
              generalize wr.drew=w39 at HO_7 BK223 HB hx238_0 hHeld ⊢
              refine pure_ (i:=0) (N:=some 51) (v:=?_) (a':=?_) #[true,false,false,false,false,false,false,false,false,false,false,false,false,false] rfl rfl (any_of HT_.out (by kernel_rfl)) (fun _ _ _ h=>h) (Or.inl ⟨by rfl,?_⟩) ?_ ?_
              rotate_left
              ·intro w'
               go_simp
               with_reducible rfl
              rotate_left
              ·simp only [Act.put,List.setIfInBounds_toArray,List.set_cons_zero,List.set_cons_succ,i64_w,i32_w]
               rfl
              refine pure_ (i:=2) (N:=some 53) (v:=?_) (a':=?_) #[true,false,true,false,false,false,false,false,false,false,false,false,false,false] rfl rfl (any_of HT_.out (by kernel_rfl)) (fun _ _ _ h=>h) (Or.inl ⟨by rfl,?_⟩) ?_ ?_
              rotate_left
              ·intro w'
               go_simp
               with_reducible rfl
              rotate_left
              ·simp only [Act.put,List.setIfInBounds_toArray,List.set_cons_zero,List.set_cons_succ,i64_w,i32_w]
               rfl
              refine pure_ (i:=3) (N:=some 54) (v:=?_) (a':=?_) #[true,false,true,true,false,false,false,false,false,false,false,false,false,false] rfl rfl (any_of HT_.out (by kernel_rfl)) (fun _ _ _ h=>h) (Or.inl ⟨by rfl,?_⟩) ?_ ?_
              rotate_left
              ·intro w'
               go_simp
               with_reducible rfl
              rotate_left
              ·simp only [Act.put,List.setIfInBounds_toArray,List.set_cons_zero,List.set_cons_succ,i64_w,i32_w]
               rfl
              refine pure_ (i:=4) (N:=some 55) (v:=?_) (a':=?_) #[true,false,true,true,true,false,false,false,false,false,false,false,false,false] rfl rfl (any_of HT_.out (by kernel_rfl)) (fun _ _ _ h=>h) (Or.inl ⟨by rfl,?_⟩) ?_ ?_
              rotate_left
              ·intro w'
               go_simp
               with_reducible rfl
              rotate_left
              ·simp only [Act.put,List.setIfInBounds_toArray,List.set_cons_zero,List.set_cons_succ,i64_w,i32_w]
               rfl
              refine pure_ (i:=7) (N:=some 58) (v:=?_) (a':=?_) #[true,false,true,true,true,false,false,true,false,false,false,false,false,false] rfl rfl (any_of HT_.out (by kernel_rfl)) (fun _ _ _ h=>h) (Or.inl ⟨by rfl,?_⟩) ?_ ?_
              rotate_left
              ·intro w'
               go_simp
               with_reducible rfl
              rotate_left
              ·simp only [Act.put,List.setIfInBounds_toArray,List.set_cons_zero,List.set_cons_succ,i64_w,i32_w]
               rfl
              refine pure_ (i:=9) (N:=some 60) (v:=?_) (a':=?_) #[true,false,true,true,true,false,false,true,false,true,false,false,false,false] rfl rfl (any_of HT_.out (by kernel_rfl)) (fun _ _ _ h=>h) (Or.inl ⟨by rfl,?_⟩) ?_ ?_
              rotate_left
              ·intro w'
               go_simp
               with_reducible rfl
              rotate_left
              ·simp only [Act.put,List.setIfInBounds_toArray,List.set_cons_zero,List.set_cons_succ,i64_w,i32_w]
               rfl
              refine take_ (i:=1) (N:=some 52) (v:=?_) (a':=?_) #[true,true,true,true,true,false,false,true,false,true,false,false,false,false] rfl rfl (take_ofW HT_.out HW_.out (by kernel_rfl)) (fun _ _ _ h=>h) (Or.inl ⟨by rfl,?_⟩) hHeld ?_ ?_
              rotate_left
              ·rintro w' ⟨s0,s1,s2,s3,s4,s5,s6,s7⟩
               go_simp
               with_reducible rfl
              rotate_left
              ·simp only [Act.put,List.setIfInBounds_toArray,List.set_cons_zero,List.set_cons_succ,i64_w,i32_w]
               rfl
              refine take_ (i:=5) (N:=some 56) (v:=?_) (a':=?_) #[true,true,true,true,true,true,false,true,false,true,false,false,false,false] rfl rfl (take_ofW HT_.out HW_.out (by kernel_rfl)) (fun _ _ _ h=>h) (Or.inl ⟨by rfl,?_⟩) hHeld ?_ ?_
              rotate_left
              ·rintro w' ⟨s0,s1,s2,s3,s4,s5,s6,s7⟩
               go_simp
               with_reducible rfl
              rotate_left
              ·simp only [Act.put,List.setIfInBounds_toArray,List.set_cons_zero,List.set_cons_succ,i64_w,i32_w]
               rfl
              refine take_ (i:=10) (N:=some 61) (v:=?_) (a':=?_) #[true,true,true,true,true,true,false,true,false,true,true,false,false,false] rfl rfl (take_ofW HT_.out HW_.out (by kernel_rfl)) (fun _ _ _ h=>h) (Or.inl ⟨by rfl,?_⟩) hHeld ?_ ?_
              rotate_left
              ·rintro w' ⟨s0,s1,s2,s3,s4,s5,s6,s7⟩
               go_simp
               with_reducible rfl
              rotate_left
              ·simp only [Act.put,List.setIfInBounds_toArray,List.set_cons_zero,List.set_cons_succ,i64_w,i32_w]
               rfl
              refine one_ (i:=6) (N:=some 57) #[true,true,true,true,true,true,true,true,false,true,true,false,false,false] rfl rfl (one_of HT_.out (by kernel_rfl)) (by decide) (fun K hK=>?_)
              refine goes_ Try.func42 (by kernel_rfl) rfl #[.agg #[.int .i64 a0_0,.int .i64 a0_1,.int .i64 a0_2,.int .i64 a0_3,.slice A0_4 l0_4.length c0_4,.slice A0_5 l0_5.length c0_5,.slice A0_6 l0_6.length c0_6],.int .i64 (rd t234 x10_3)] (by rfl) rfl rfl (by (try simp only [List.map_toArray,List.map_cons,List.map_nil]);first|done|rfl|(simp only [List.length_drop,List.length_take];rfl)) ?_
              with_reducible refine (spec_l12Advance.calls k3 a0_0 a0_1 a0_2 a0_3 _ _ l0_4 _ _ l0_5 _ _ l0_6 (rd t234 x10_3) t239 _ ?side1 ?side2 ?side3 ?side4 ?side5 ?side6 A30.out).mono ?_
              (case side1=>repeat (first|exact (Kd.C_below HR0_4.out HB.out)|(with_reducible refine Kd.C_alloc ?_ _)|(with_reducible refine Kd.C_drewN ?_ _)|(with_reducible refine Kd.C_drew ?_)))
              (case side2=>exact HC0_4.out)
              (case side3=>repeat (first|exact (Kd.C_below HR0_5.out HB.out)|(with_reducible refine Kd.C_alloc ?_ _)|(with_reducible refine Kd.C_drewN ?_ _)|(with_reducible refine Kd.C_drew ?_)))
              (case side4=>exact HC0_5.out)
              (case side5=>repeat (first|exact (Kd.C_below HR0_6.out HB.out)|(with_reducible refine Kd.C_alloc ?_ _)|(with_reducible refine Kd.C_drewN ?_ _)|(with_reducible refine Kd.C_drew ?_)))
              (case side6=>exact HC0_6.out)
              rintro e w40 ⟨rfl,hb⟩
              have HS7_:=(hb.cell (World.block_lt_of_cell? _ _ (hHeld.2.2.2.2.2.2.2))).trans (hHeld.2.2.2.2.2.2.2)
              refine ⟨_,rfl,?_⟩
              have n0_:=Aside0.mk (Kd.R_below (by (with_reducible repeat (first|apply Kd.R_alloc|apply Kd.R_drewN|apply Kd.R_drew));exact HO_7.out) hb)
              have n1_:=Aside0.mk (blk_below (g:=gb223) (o:=.cells #[.int .i64 a0_0,.int .i64 a0_1,.int .i64 a0_2,.int .i64 a0_3,.slice A0_4 l0_4.length c0_4,.slice A0_5 l0_5.length c0_5,.slice A0_6 l0_6.length c0_6] 34 (0,0)) (by (with_reducible repeat (first|refine blk_drewN ?_ _|refine blk_drew ?_|refine blk_alloc ?_ _));exact BK223.out) hb)
              have n2_:=Aside0.mk (below_step (by repeat (first|exact HB.out|apply below_alloc|apply pw_below_drewN|apply below_drew1|refine below_set ?_ GE223.out)) hb)
              clear HO_7
              clear BK223
              clear HB
              have HO_7:=n0_
              have BK223:=n1_
              have HB:=n2_
              clear n0_ n1_ n2_
              (try clear hb)
              (try clear hb2)
              (try clear hk)
              (try clear hi)
              refine hK.out _ _ ⟨(blk_cell BK223.out 0).trans rfl,(blk_cell BK223.out 1).trans rfl,(blk_cell BK223.out 2).trans rfl,(blk_cell BK223.out 3).trans rfl,(blk_cell BK223.out 4).trans rfl,(blk_cell BK223.out 5).trans rfl,(blk_cell BK223.out 6).trans rfl,HS7_⟩ (fun hHeld=>?_)
              clear hK K
              refine norm_ (a':=?_) ?_ ?_
              rotate_left
              ·show Act.put _ (some 57) _=_
               simp only [Act.put,List.setIfInBounds_toArray,List.set_cons_zero,List.set_cons_succ,i64_w,i32_w]
               rfl
              refine pure_ (i:=8) (N:=some 59) (v:=?_) (a':=?_) #[true,true,true,true,true,true,true,true,true,true,true,false,false,false] rfl rfl (any_of HT_.out (by kernel_rfl)) (fun _ _ _ h=>h) (Or.inl ⟨by rfl,?_⟩) ?_ ?_
              rotate_left
              ·intro w'
               go_simp
               with_reducible rfl
              rotate_left
              ·simp only [Act.put,List.setIfInBounds_toArray,List.set_cons_zero,List.set_cons_succ,i64_w,i32_w]
               rfl
              refine one_ (i:=11) (N:=some 62) #[true,true,true,true,true,true,true,true,true,true,true,true,false,false] rfl rfl (one_of HT_.out (by kernel_rfl)) (by decide) (fun K hK=>?_)
              refine goes_ Try.func41 (by kernel_rfl) rfl #[.int .i64 (wrap64 (t239*a2)),.int .i64 a0_0] (by rfl) rfl rfl (by (try simp only [List.map_toArray,List.map_cons,List.map_nil]);first|done|rfl|(simp only [List.length_drop,List.length_take];rfl)) ?_
              with_reducible refine (spec_l9Floor.calls (wrap64 (t239*a2)) a0_0 t240 _ A31.out).mono ?_
              rintro e w' ⟨rfl,⟨nd,rfl⟩⟩
              refine ⟨_,rfl,?_⟩
              refine hK.out _ _ ⟨(blk_cell BK223.out 0).trans rfl,(blk_cell BK223.out 1).trans rfl,(blk_cell BK223.out 2).trans rfl,(blk_cell BK223.out 3).trans rfl,(blk_cell BK223.out 4).trans rfl,(blk_cell BK223.out 5).trans rfl,(blk_cell BK223.out 6).trans rfl,hHeld.2.2.2.2.2.2.2⟩ (fun hHeld=>?_)
              clear hK K
              refine norm_ (a':=?_) ?_ ?_
              rotate_left
              ·show Act.put _ (some 62) _=_
               simp only [Act.put,List.setIfInBounds_toArray,List.set_cons_zero,List.set_cons_succ,i64_w,i32_w]
               rfl
              refine pure_ (i:=12) (N:=some 63) (v:=?_) (a':=?_) #[true,true,true,true,true,true,true,true,true,true,true,true,true,false] rfl rfl (any_of HT_.out (by kernel_rfl)) (fun _ _ _ h=>h) (Or.inl ⟨by rfl,?_⟩) ?_ ?_
              rotate_left
              ·intro w'
               go_simp
               with_reducible rfl
              rotate_left
              ·simp only [Act.put,List.setIfInBounds_toArray,List.set_cons_zero,List.set_cons_succ,i64_w,i32_w]
               rfl
              refine pure_ (i:=13) (N:=some 9) (v:=?_) (a':=?_) #[true,true,true,true,true,true,true,true,true,true,true,true,true,true] rfl rfl (any_of HT_.out (by kernel_rfl)) (fun _ _ _ h=>h) (Or.inl ⟨by rfl,?_⟩) ?_ ?_
              rotate_left
              ·intro w'
               go_simp
               with_reducible rfl
              rotate_left
              ·simp only [Act.put,List.setIfInBounds_toArray,List.set_cons_zero,List.set_cons_succ,i64_w,i32_w]
               rfl
              refine done_ (done_of HT_.out (by kernel_rfl)) ?_
              try go_wp2
              (try (rw [drewN_self w40];generalize hq_:World.drewN w40 _=w40;have n0_:Aside0 (Kd.R (Kd.int .i64) 3 w40 w.heap.size (fun _=>True) (.slice (some ad238) t234.length co38) t234):=⟨by rw [← hq_];exact (by (with_reducible repeat (first|apply Kd.R_alloc|apply Kd.R_drewN|apply Kd.R_drew));exact HO_7.out)⟩;have n1_:Aside0 (w40.heap[gb223]?=some (.cells #[.int .i64 a0_0,.int .i64 a0_1,.int .i64 a0_2,.int .i64 a0_3,.slice A0_4 l0_4.length c0_4,.slice A0_5 l0_5.length c0_5,.slice A0_6 l0_6.length c0_6] 34 (0,0))):=⟨by rw [← hq_];exact (by (with_reducible repeat (first|refine blk_drewN ?_ _|refine blk_drew ?_|refine blk_alloc ?_ _));exact BK223.out)⟩;have n2_:Aside0 (Below w.heap.size w w40):=⟨by rw [← hq_];exact (by repeat (first|exact HB.out|apply below_alloc|apply pw_below_drewN|apply below_drew1|refine below_set ?_ GE223.out))⟩;clear HO_7 BK223 HB hq_;have HO_7:=n0_;have BK223:=n1_;have HB:=n2_;clear n0_ n1_ n2_))
              have n0_:=Aside0.mk (Kd.R_drew HO_7.out)
              have n1_:=Aside0.mk (blk_drew BK223.out)
              have n2_:=Aside0.mk (below_drew1 HB.out)
              clear HO_7
              clear BK223
              clear HB
              have HO_7:=n0_
              have BK223:=n1_
              have HB:=n2_
              clear n0_ n1_ n2_
              have p241:0≤((ji33):Int):=of_decide_eq_true (by first|(with_reducible assumption)|assumption)
              have q241:(ji33)<(t234.length:Int):=of_decide_eq_true (by first|(with_reducible assumption)|assumption)
              obtain ⟨ad241,e241,hx241_0⟩:=Kd.at_int (Kd.R_reads' HO_7.out).2.2 (ji33) p241 q241
              obtain rfl:ad238=ad241:=(by injection e241)
              replace p241:=eq_true p241
              replace q241:=eq_true q241
              have p242:0≤(x10_3:Int):=of_decide_eq_true (by first|(with_reducible assumption)|assumption)
              have q242:x10_3<(t234.length:Int):=of_decide_eq_true (by first|(with_reducible assumption)|assumption)
              obtain ⟨ad242,e242,hx242_0⟩:=Kd.at_int (Kd.R_reads' HO_7.out).2.2 x10_3 p242 q242
              obtain rfl:ad238=ad242:=(by injection e242)
              replace p242:=eq_true p242
              replace q242:=eq_true q242
              refine start_ (n:=19) (S:=fun w'=>w'.cell? ⟨gb223,0,none⟩=some (.int .i64 a0_0)∧w'.cell? ⟨gb223,1,none⟩=some (.int .i64 a0_1)∧w'.cell? ⟨gb223,2,none⟩=some (.int .i64 a0_2)∧w'.cell? ⟨gb223,3,none⟩=some (.int .i64 a0_3)∧w'.cell? ⟨gb223,4,none⟩=some (.slice A0_4 l0_4.length c0_4)∧w'.cell? ⟨gb223,5,none⟩=some (.slice A0_5 l0_5.length c0_5)∧w'.cell? ⟨gb223,6,none⟩=some (.slice A0_6 l0_6.length c0_6)∧w'.cell? (ad238.add ((ji33)).toNat)=some (.int .i64 (rd t234 (ji33)))∧w'.cell? (ad238.add (x10_3).toNat)=some (.int .i64 (rd t234 x10_3))) (ds:=[]) #[false,false,false,false,false,false,false,false,false,false,false,false,false,false,false,false,false,false,false] (by kernel_rfl) rfl rfl ⟨(blk_cell BK223.out 0).trans rfl,(blk_cell BK223.out 1).trans rfl,(blk_cell BK223.out 2).trans rfl,(blk_cell BK223.out 3).trans rfl,(blk_cell BK223.out 4).trans rfl,(blk_cell BK223.out 5).trans rfl,(blk_cell BK223.out 6).trans rfl,hx241_0,hx242_0⟩ (fun hHeld=>?_);refine with_tabW spec_Advance.tab16 spec_Advance.bits16 (fun HT_ HW_=>?_)
              generalize w40.drew=w41 at HO_7 BK223 HB hx241_0 hx242_0 hHeld ⊢
              refine pure_ (i:=0) (N:=some 66) (v:=?_) (a':=?_) #[true,false,false,false,false,false,false,false,false,false,false,false,false,false,false,false,false,false,false] rfl rfl (any_of HT_.out (by kernel_rfl)) (fun _ _ _ h=>h) (Or.inl ⟨by rfl,?_⟩) ?_ ?_
              rotate_left
              ·intro w'
               go_simp
               with_reducible rfl
              rotate_left
              ·simp only [Act.put,List.setIfInBounds_toArray,List.set_cons_zero,List.set_cons_succ,i64_w,i32_w]
               rfl
              refine pure_ (i:=2) (N:=some 68) (v:=?_) (a':=?_) #[true,false,true,false,false,false,false,false,false,false,false,false,false,false,false,false,false,false,false] rfl rfl (any_of HT_.out (by kernel_rfl)) (fun _ _ _ h=>h) (Or.inl ⟨by rfl,?_⟩) ?_ ?_
              rotate_left
              ·intro w'
               go_simp
               with_reducible rfl
              rotate_left
              ·simp only [Act.put,List.setIfInBounds_toArray,List.set_cons_zero,List.set_cons_succ,i64_w,i32_w]
               rfl
              refine pure_ (i:=3) (N:=some 69) (v:=?_) (a':=?_) #[true,false,true,true,false,false,false,false,false,false,false,false,false,false,false,false,false,false,false] rfl rfl (any_of HT_.out (by kernel_rfl)) (fun _ _ _ h=>h) (Or.inl ⟨by rfl,?_⟩) ?_ ?_
              rotate_left
              ·intro w'
               go_simp
               with_reducible rfl
              rotate_left
              ·simp only [Act.put,List.setIfInBounds_toArray,List.set_cons_zero,List.set_cons_succ,i64_w,i32_w]
               rfl
              refine pure_ (i:=4) (N:=some 70) (v:=?_) (a':=?_) #[true,false,true,true,true,false,false,false,false,false,false,false,false,false,false,false,false,false,false] rfl rfl (any_of HT_.out (by kernel_rfl)) (fun _ _ _ h=>h) (Or.inl ⟨by rfl,?_⟩) ?_ ?_
              rotate_left
              ·intro w'
               go_simp
               with_reducible rfl
              rotate_left
              ·simp only [Act.put,List.setIfInBounds_toArray,List.set_cons_zero,List.set_cons_succ,i64_w,i32_w]
               rfl
              refine pure_ (i:=5) (N:=some 71) (v:=?_) (a':=?_) #[true,false,true,true,true,true,false,false,false,false,false,false,false,false,false,false,false,false,false] rfl rfl (any_of HT_.out (by kernel_rfl)) (fun _ _ _ h=>h) (Or.inl ⟨by rfl,?_⟩) ?_ ?_
              rotate_left
              ·intro w'
               go_simp
               with_reducible rfl
              rotate_left
              ·simp only [Act.put,List.setIfInBounds_toArray,List.set_cons_zero,List.set_cons_succ,i64_w,i32_w]
               rfl
              refine pure_ (i:=7) (N:=some 73) (v:=?_) (a':=?_) #[true,false,true,true,true,true,false,true,false,false,false,false,false,false,false,false,false,false,false] rfl rfl (any_of HT_.out (by kernel_rfl)) (fun _ _ _ h=>h) (Or.inl ⟨by rfl,?_⟩) ?_ ?_
              rotate_left
              ·intro w'
               go_simp
               with_reducible rfl
              rotate_left
              ·simp only [Act.put,List.setIfInBounds_toArray,List.set_cons_zero,List.set_cons_succ,i64_w,i32_w]
               rfl
              refine pure_ (i:=8) (N:=some 74) (v:=?_) (a':=?_) #[true,false,true,true,true,true,false,true,true,false,false,false,false,false,false,false,false,false,false] rfl rfl (any_of HT_.out (by kernel_rfl)) (fun _ _ _ h=>h) (Or.inl ⟨by rfl,?_⟩) ?_ ?_
              rotate_left
              ·intro w'
               go_simp
               with_reducible rfl
              rotate_left
              ·simp only [Act.put,List.setIfInBounds_toArray,List.set_cons_zero,List.set_cons_succ,i64_w,i32_w]
               rfl
              refine pure_ (i:=9) (N:=some 75) (v:=?_) (a':=?_) #[true,false,true,true,true,true,false,true,true,true,false,false,false,false,false,false,false,false,false] rfl rfl (any_of HT_.out (by kernel_rfl)) (fun _ _ _ h=>h) (Or.inl ⟨by rfl,?_⟩) ?_ ?_
              rotate_left
              ·intro w'
               go_simp
               with_reducible rfl
              rotate_left
              ·simp only [Act.put,List.setIfInBounds_toArray,List.set_cons_zero,List.set_cons_succ,i64_w,i32_w]
               rfl
              refine pure_ (i:=12) (N:=some 78) (v:=?_) (a':=?_) #[true,false,true,true,true,true,false,true,true,true,false,false,true,false,false,false,false,false,false] rfl rfl (any_of HT_.out (by kernel_rfl)) (fun _ _ _ h=>h) (Or.inl ⟨by rfl,?_⟩) ?_ ?_
              rotate_left
              ·intro w'
               go_simp
               with_reducible rfl
              rotate_left
              ·simp only [Act.put,List.setIfInBounds_toArray,List.set_cons_zero,List.set_cons_succ,i64_w,i32_w]
               rfl
              refine pure_ (i:=14) (N:=some 80) (v:=?_) (a':=?_) #[true,false,true,true,true,true,false,true,true,true,false,false,true,false,true,false,false,false,false] rfl rfl (any_of HT_.out (by kernel_rfl)) (fun _ _ _ h=>h) (Or.inl ⟨by rfl,?_⟩) ?_ ?_
              rotate_left
              ·intro w'
               go_simp
               with_reducible rfl
              rotate_left
              ·simp only [Act.put,List.setIfInBounds_toArray,List.set_cons_zero,List.set_cons_succ,i64_w,i32_w]
               rfl
              refine take_ (i:=1) (N:=some 67) (v:=?_) (a':=?_) #[true,true,true,true,true,true,false,true,true,true,false,false,true,false,true,false,false,false,false] rfl rfl (take_ofW HT_.out HW_.out (by kernel_rfl)) (fun _ _ _ h=>h) (Or.inl ⟨by rfl,?_⟩) hHeld ?_ ?_
              rotate_left
              ·rintro w' ⟨s0,s1,s2,s3,s4,s5,s6,s7,s8⟩
               go_simp
               with_reducible rfl
              rotate_left
              ·simp only [Act.put,List.setIfInBounds_toArray,List.set_cons_zero,List.set_cons_succ,i64_w,i32_w]
               rfl
              refine take_ (i:=6) (N:=some 72) (v:=?_) (a':=?_) #[true,true,true,true,true,true,true,true,true,true,false,false,true,false,true,false,false,false,false] rfl rfl (take_ofW HT_.out HW_.out (by kernel_rfl)) (fun _ _ _ h=>h) (Or.inl ⟨by rfl,?_⟩) hHeld ?_ ?_
              rotate_left
              ·rintro w' ⟨s0,s1,s2,s3,s4,s5,s6,s7,s8⟩
               go_simp
               with_reducible rfl
              rotate_left
              ·simp only [Act.put,List.setIfInBounds_toArray,List.set_cons_zero,List.set_cons_succ,i64_w,i32_w]
               rfl
              refine take_ (i:=10) (N:=some 76) (v:=?_) (a':=?_) #[true,true,true,true,true,true,true,true,true,true,true,false,true,false,true,false,false,false,false] rfl rfl (take_ofW HT_.out HW_.out (by kernel_rfl)) (fun _ _ _ h=>h) (Or.inl ⟨by rfl,?_⟩) hHeld ?_ ?_
              rotate_left
              ·rintro w' ⟨s0,s1,s2,s3,s4,s5,s6,s7,s8⟩
               go_simp
               with_reducible rfl
              rotate_left
              ·simp only [Act.put,List.setIfInBounds_toArray,List.set_cons_zero,List.set_cons_succ,i64_w,i32_w]
               rfl
              refine take_ (i:=15) (N:=some 81) (v:=?_) (a':=?_) #[true,true,true,true,true,true,true,true,true,true,true,false,true,false,true,true,false,false,false] rfl rfl (take_ofW HT_.out HW_.out (by kernel_rfl)) (fun _ _ _ h=>h) (Or.inl ⟨by rfl,?_⟩) hHeld ?_ ?_
              rotate_left
              ·rintro w' ⟨s0,s1,s2,s3,s4,s5,s6,s7,s8⟩
               go_simp
               with_reducible rfl
              rotate_left
              ·simp only [Act.put,List.setIfInBounds_toArray,List.set_cons_zero,List.set_cons_succ,i64_w,i32_w]
               rfl
              refine one_ (i:=11) (N:=some 77) #[true,true,true,true,true,true,true,true,true,true,true,true,true,false,true,true,false,false,false] rfl rfl (one_of HT_.out (by kernel_rfl)) (by decide) (fun K hK=>?_)
              refine goes_ Try.func43 (by kernel_rfl) rfl #[.agg #[.int .i64 a0_0,.int .i64 a0_1,.int .i64 a0_2,.int .i64 a0_3,.slice A0_4 l0_4.length c0_4,.slice A0_5 l0_5.length c0_5,.slice A0_6 l0_6.length c0_6],.int .i64 (rd t234 (ji33)),.int .i64 (rd t234 x10_3)] (by rfl) rfl rfl (by (try simp only [List.map_toArray,List.map_cons,List.map_nil]);first|done|(simp only [hji33];rfl)|rfl|(simp only [List.length_drop,List.length_take];rfl)) ?_
              with_reducible refine (spec_l12Kern.calls k3 a0_0 a0_1 a0_2 a0_3 _ _ l0_4 _ _ l0_5 _ _ l0_6 (rd t234 (ji33)) (rd t234 x10_3) t243 _ ?side1 ?side2 ?side3 ?side4 ?side5 ?side6 A36.out).mono ?_
              (case side1=>repeat (first|exact (Kd.C_below HR0_4.out HB.out)|(with_reducible refine Kd.C_alloc ?_ _)|(with_reducible refine Kd.C_drewN ?_ _)|(with_reducible refine Kd.C_drew ?_)))
              (case side2=>exact HC0_4.out)
              (case side3=>repeat (first|exact (Kd.C_below HR0_5.out HB.out)|(with_reducible refine Kd.C_alloc ?_ _)|(with_reducible refine Kd.C_drewN ?_ _)|(with_reducible refine Kd.C_drew ?_)))
              (case side4=>exact HC0_5.out)
              (case side5=>repeat (first|exact (Kd.C_below HR0_6.out HB.out)|(with_reducible refine Kd.C_alloc ?_ _)|(with_reducible refine Kd.C_drewN ?_ _)|(with_reducible refine Kd.C_drew ?_)))
              (case side6=>exact HC0_6.out)
              rintro e w42 ⟨rfl,hb⟩
              have HS7_:=(hb.cell (World.block_lt_of_cell? _ _ (hHeld.2.2.2.2.2.2.2.1))).trans (hHeld.2.2.2.2.2.2.2.1)
              have HS8_:=(hb.cell (World.block_lt_of_cell? _ _ (hHeld.2.2.2.2.2.2.2.2))).trans (hHeld.2.2.2.2.2.2.2.2)
              refine ⟨_,rfl,?_⟩
              have n0_:=Aside0.mk (Kd.R_below (by (with_reducible repeat (first|apply Kd.R_alloc|apply Kd.R_drewN|apply Kd.R_drew));exact HO_7.out) hb)
              have n1_:=Aside0.mk (blk_below (g:=gb223) (o:=.cells #[.int .i64 a0_0,.int .i64 a0_1,.int .i64 a0_2,.int .i64 a0_3,.slice A0_4 l0_4.length c0_4,.slice A0_5 l0_5.length c0_5,.slice A0_6 l0_6.length c0_6] 34 (0,0)) (by (with_reducible repeat (first|refine blk_drewN ?_ _|refine blk_drew ?_|refine blk_alloc ?_ _));exact BK223.out) hb)
              have n2_:=Aside0.mk (below_step (by repeat (first|exact HB.out|apply below_alloc|apply pw_below_drewN|apply below_drew1|refine below_set ?_ GE223.out)) hb)
              clear HO_7
              clear BK223
              clear HB
              have HO_7:=n0_
              have BK223:=n1_
              have HB:=n2_
              clear n0_ n1_ n2_
              (try clear hb)
              (try clear hb2)
              (try clear hk)
              (try clear hi)
              refine hK.out _ _ ⟨(blk_cell BK223.out 0).trans rfl,(blk_cell BK223.out 1).trans rfl,(blk_cell BK223.out 2).trans rfl,(blk_cell BK223.out 3).trans rfl,(blk_cell BK223.out 4).trans rfl,(blk_cell BK223.out 5).trans rfl,(blk_cell BK223.out 6).trans rfl,HS7_,HS8_⟩ (fun hHeld=>?_)
              clear hK K
              refine norm_ (a':=?_) ?_ ?_
              rotate_left
              ·show Act.put _ (some 77) _=_
               simp only [Act.put,List.setIfInBounds_toArray,List.set_cons_zero,List.set_cons_succ,i64_w,i32_w]
               rfl
              refine pure_ (i:=13) (N:=some 79) (v:=?_) (a':=?_) #[true,true,true,true,true,true,true,true,true,true,true,true,true,true,true,true,false,false,false] rfl rfl (any_of HT_.out (by kernel_rfl)) (fun _ _ _ h=>h) (Or.inl ⟨by rfl,?_⟩) ?_ ?_
              rotate_left
              ·intro w'
               go_simp
               with_reducible rfl
              rotate_left
              ·simp only [Act.put,List.setIfInBounds_toArray,List.set_cons_zero,List.set_cons_succ,i64_w,i32_w]
               rfl
              refine one_ (i:=16) (N:=some 82) #[true,true,true,true,true,true,true,true,true,true,true,true,true,true,true,true,true,false,false] rfl rfl (one_of HT_.out (by kernel_rfl)) (by decide) (fun K hK=>?_)
              refine goes_ Try.func41 (by kernel_rfl) rfl #[.int .i64 (wrap64 (t243*a2)),.int .i64 a0_0] (by rfl) rfl rfl (by (try simp only [List.map_toArray,List.map_cons,List.map_nil]);first|done|rfl|(simp only [List.length_drop,List.length_take];rfl)) ?_
              with_reducible refine (spec_l9Floor.calls (wrap64 (t243*a2)) a0_0 t244 _ A37.out).mono ?_
              rintro e w' ⟨rfl,⟨nd,rfl⟩⟩
              refine ⟨_,rfl,?_⟩
              refine hK.out _ _ ⟨(blk_cell BK223.out 0).trans rfl,(blk_cell BK223.out 1).trans rfl,(blk_cell BK223.out 2).trans rfl,(blk_cell BK223.out 3).trans rfl,(blk_cell BK223.out 4).trans rfl,(blk_cell BK223.out 5).trans rfl,(blk_cell BK223.out 6).trans rfl,hHeld.2.2.2.2.2.2.2.1,hHeld.2.2.2.2.2.2.2.2⟩ (fun hHeld=>?_)
              clear hK K
              refine norm_ (a':=?_) ?_ ?_
              rotate_left
              ·show Act.put _ (some 82) _=_
               simp only [Act.put,List.setIfInBounds_toArray,List.set_cons_zero,List.set_cons_succ,i64_w,i32_w]
               rfl
              refine pure_ (i:=17) (N:=some 83) (v:=?_) (a':=?_) #[true,true,true,true,true,true,true,true,true,true,true,true,true,true,true,true,true,true,false] rfl rfl (any_of HT_.out (by kernel_rfl)) (fun _ _ _ h=>h) (Or.inl ⟨by rfl,?_⟩) ?_ ?_
              rotate_left
              ·intro w'
               go_simp
               with_reducible rfl
              rotate_left
              ·simp only [Act.put,List.setIfInBounds_toArray,List.set_cons_zero,List.set_cons_succ,i64_w,i32_w]
               rfl
              refine pure_ (i:=18) (N:=some 9) (v:=?_) (a':=?_) #[true,true,true,true,true,true,true,true,true,true,true,true,true,true,true,true,true,true,true] rfl rfl (any_of HT_.out (by kernel_rfl)) (fun _ _ _ h=>h) (Or.inl ⟨by rfl,?_⟩) ?_ ?_
              rotate_left
              ·intro w'
               go_simp
               with_reducible rfl
              rotate_left
              ·simp only [Act.put,List.setIfInBounds_toArray,List.set_cons_zero,List.set_cons_succ,i64_w,i32_w]
               rfl
              refine done_ (done_of HT_.out (by kernel_rfl)) ?_
              try go_wp2
              go_roundg k3
              case measure=>have:=HJ3.out;have:=HK2.out;have:=HK3.out;omega
              case rel=>exact ⟨(wrap64 ((wrap64 (x9_3+t240))+t244)),(wrap64 (x10_3+1)),(by first|rfl|(simp;done)|(simp [*];done)),(by first|rfl|(simp;done)|(simp [*];done)),H',⟨by have:=HJ3.out;have:=HK2.out;have:=HK3.out;omega⟩,⟨by (with_reducible repeat (first|apply Kd.R_alloc|apply Kd.R_drewN|apply Kd.R_drew));exact HO_7.out⟩,⟨by (with_reducible repeat (first|refine blk_drewN ?_ _|refine blk_drew ?_|refine blk_alloc ?_ _));exact BK223.out⟩,⟨by repeat (first|exact HB.out|apply below_alloc|apply pw_below_drewN|apply below_drew1|refine below_set ?_ GE223.out)⟩⟩
             ·rw [if_neg c35] at H
              exact absurd H (by simp)
            ·rw [if_neg c34] at H
             exact absurd H (by simp)
           ·rw [if_neg c32] at H
            have c32b0:decide (0<x10_3)=false:=decide_eq_false c32
            clear c32
            have H':=Aside0.mk H
            clear H
            obtain ⟨Ao43,co43,eo43⟩:=Kd.R_slice HO_7.out
            subst eo43
            try go_wp2
            have n0_:=Aside0.mk (Kd.R_drew HO_7.out)
            have n1_:=Aside0.mk (blk_drew BK223.out)
            have n2_:=Aside0.mk (below_drew1 HB.out)
            clear HO_7
            clear BK223
            clear HB
            have HO_7:=n0_
            have BK223:=n1_
            have HB:=n2_
            clear n0_ n1_ n2_
            have p238:0≤(x10_3:Int):=of_decide_eq_true (by first|(with_reducible assumption)|assumption)
            have q238:x10_3<(t234.length:Int):=of_decide_eq_true (by first|(with_reducible assumption)|assumption)
            obtain ⟨ad238,e238,hx238_0⟩:=Kd.at_int (Kd.R_reads' HO_7.out).2.2 x10_3 p238 q238
            cases e238
            replace p238:=eq_true p238
            replace q238:=eq_true q238
            refine start_ (n:=14) (S:=fun w'=>w'.cell? ⟨gb223,0,none⟩=some (.int .i64 a0_0)∧w'.cell? ⟨gb223,1,none⟩=some (.int .i64 a0_1)∧w'.cell? ⟨gb223,2,none⟩=some (.int .i64 a0_2)∧w'.cell? ⟨gb223,3,none⟩=some (.int .i64 a0_3)∧w'.cell? ⟨gb223,4,none⟩=some (.slice A0_4 l0_4.length c0_4)∧w'.cell? ⟨gb223,5,none⟩=some (.slice A0_5 l0_5.length c0_5)∧w'.cell? ⟨gb223,6,none⟩=some (.slice A0_6 l0_6.length c0_6)∧w'.cell? (ad238.add (x10_3).toNat)=some (.int .i64 (rd t234 x10_3))) (ds:=[]) #[false,false,false,false,false,false,false,false,false,false,false,false,false,false] (by kernel_rfl) rfl rfl ⟨(blk_cell BK223.out 0).trans rfl,(blk_cell BK223.out 1).trans rfl,(blk_cell BK223.out 2).trans rfl,(blk_cell BK223.out 3).trans rfl,(blk_cell BK223.out 4).trans rfl,(blk_cell BK223.out 5).trans rfl,(blk_cell BK223.out 6).trans rfl,hx238_0⟩ (fun hHeld=>?_);refine with_tabW spec_Advance.tab14 spec_Advance.bits14 (fun HT_ HW_=>?_)
            generalize wr.drew=w44 at HO_7 BK223 HB hx238_0 hHeld ⊢
            refine pure_ (i:=0) (N:=some 51) (v:=?_) (a':=?_) #[true,false,false,false,false,false,false,false,false,false,false,false,false,false] rfl rfl (any_of HT_.out (by kernel_rfl)) (fun _ _ _ h=>h) (Or.inl ⟨by rfl,?_⟩) ?_ ?_
            rotate_left
            ·intro w'
             go_simp
             with_reducible rfl
            rotate_left
            ·simp only [Act.put,List.setIfInBounds_toArray,List.set_cons_zero,List.set_cons_succ,i64_w,i32_w]
             rfl
            refine pure_ (i:=2) (N:=some 53) (v:=?_) (a':=?_) #[true,false,true,false,false,false,false,false,false,false,false,false,false,false] rfl rfl (any_of HT_.out (by kernel_rfl)) (fun _ _ _ h=>h) (Or.inl ⟨by rfl,?_⟩) ?_ ?_
            rotate_left
            ·intro w'
             go_simp
             with_reducible rfl
            rotate_left
            ·simp only [Act.put,List.setIfInBounds_toArray,List.set_cons_zero,List.set_cons_succ,i64_w,i32_w]
             rfl
            refine pure_ (i:=3) (N:=some 54) (v:=?_) (a':=?_) #[true,false,true,true,false,false,false,false,false,false,false,false,false,false] rfl rfl (any_of HT_.out (by kernel_rfl)) (fun _ _ _ h=>h) (Or.inl ⟨by rfl,?_⟩) ?_ ?_
            rotate_left
            ·intro w'
             go_simp
             with_reducible rfl
            rotate_left
            ·simp only [Act.put,List.setIfInBounds_toArray,List.set_cons_zero,List.set_cons_succ,i64_w,i32_w]
             rfl
            refine pure_ (i:=4) (N:=some 55) (v:=?_) (a':=?_) #[true,false,true,true,true,false,false,false,false,false,false,false,false,false] rfl rfl (any_of HT_.out (by kernel_rfl)) (fun _ _ _ h=>h) (Or.inl ⟨by rfl,?_⟩) ?_ ?_
            rotate_left
            ·intro w'
             go_simp
             with_reducible rfl
            rotate_left
            ·simp only [Act.put,List.setIfInBounds_toArray,List.set_cons_zero,List.set_cons_succ,i64_w,i32_w]
             rfl
            refine pure_ (i:=7) (N:=some 58) (v:=?_) (a':=?_) #[true,false,true,true,true,false,false,true,false,false,false,false,false,false] rfl rfl (any_of HT_.out (by kernel_rfl)) (fun _ _ _ h=>h) (Or.inl ⟨by rfl,?_⟩) ?_ ?_
            rotate_left
            ·intro w'
             go_simp
             with_reducible rfl
            rotate_left
            ·simp only [Act.put,List.setIfInBounds_toArray,List.set_cons_zero,List.set_cons_succ,i64_w,i32_w]
             rfl
            refine pure_ (i:=9) (N:=some 60) (v:=?_) (a':=?_) #[true,false,true,true,true,false,false,true,false,true,false,false,false,false] rfl rfl (any_of HT_.out (by kernel_rfl)) (fun _ _ _ h=>h) (Or.inl ⟨by rfl,?_⟩) ?_ ?_
            rotate_left
            ·intro w'
             go_simp
             with_reducible rfl
            rotate_left
            ·simp only [Act.put,List.setIfInBounds_toArray,List.set_cons_zero,List.set_cons_succ,i64_w,i32_w]
             rfl
            refine take_ (i:=1) (N:=some 52) (v:=?_) (a':=?_) #[true,true,true,true,true,false,false,true,false,true,false,false,false,false] rfl rfl (take_ofW HT_.out HW_.out (by kernel_rfl)) (fun _ _ _ h=>h) (Or.inl ⟨by rfl,?_⟩) hHeld ?_ ?_
            rotate_left
            ·rintro w' ⟨s0,s1,s2,s3,s4,s5,s6,s7⟩
             go_simp
             with_reducible rfl
            rotate_left
            ·simp only [Act.put,List.setIfInBounds_toArray,List.set_cons_zero,List.set_cons_succ,i64_w,i32_w]
             rfl
            refine take_ (i:=5) (N:=some 56) (v:=?_) (a':=?_) #[true,true,true,true,true,true,false,true,false,true,false,false,false,false] rfl rfl (take_ofW HT_.out HW_.out (by kernel_rfl)) (fun _ _ _ h=>h) (Or.inl ⟨by rfl,?_⟩) hHeld ?_ ?_
            rotate_left
            ·rintro w' ⟨s0,s1,s2,s3,s4,s5,s6,s7⟩
             go_simp
             with_reducible rfl
            rotate_left
            ·simp only [Act.put,List.setIfInBounds_toArray,List.set_cons_zero,List.set_cons_succ,i64_w,i32_w]
             rfl
            refine take_ (i:=10) (N:=some 61) (v:=?_) (a':=?_) #[true,true,true,true,true,true,false,true,false,true,true,false,false,false] rfl rfl (take_ofW HT_.out HW_.out (by kernel_rfl)) (fun _ _ _ h=>h) (Or.inl ⟨by rfl,?_⟩) hHeld ?_ ?_
            rotate_left
            ·rintro w' ⟨s0,s1,s2,s3,s4,s5,s6,s7⟩
             go_simp
             with_reducible rfl
            rotate_left
            ·simp only [Act.put,List.setIfInBounds_toArray,List.set_cons_zero,List.set_cons_succ,i64_w,i32_w]
             rfl
            refine one_ (i:=6) (N:=some 57) #[true,true,true,true,true,true,true,true,false,true,true,false,false,false] rfl rfl (one_of HT_.out (by kernel_rfl)) (by decide) (fun K hK=>?_)
            refine goes_ Try.func42 (by kernel_rfl) rfl #[.agg #[.int .i64 a0_0,.int .i64 a0_1,.int .i64 a0_2,.int .i64 a0_3,.slice A0_4 l0_4.length c0_4,.slice A0_5 l0_5.length c0_5,.slice A0_6 l0_6.length c0_6],.int .i64 (rd t234 x10_3)] (by rfl) rfl rfl (by (try simp only [List.map_toArray,List.map_cons,List.map_nil]);first|done|rfl|(simp only [List.length_drop,List.length_take];rfl)) ?_
            with_reducible refine (spec_l12Advance.calls k3 a0_0 a0_1 a0_2 a0_3 _ _ l0_4 _ _ l0_5 _ _ l0_6 (rd t234 x10_3) t239 _ ?side1 ?side2 ?side3 ?side4 ?side5 ?side6 A30.out).mono ?_
            (case side1=>repeat (first|exact (Kd.C_below HR0_4.out HB.out)|(with_reducible refine Kd.C_alloc ?_ _)|(with_reducible refine Kd.C_drewN ?_ _)|(with_reducible refine Kd.C_drew ?_)))
            (case side2=>exact HC0_4.out)
            (case side3=>repeat (first|exact (Kd.C_below HR0_5.out HB.out)|(with_reducible refine Kd.C_alloc ?_ _)|(with_reducible refine Kd.C_drewN ?_ _)|(with_reducible refine Kd.C_drew ?_)))
            (case side4=>exact HC0_5.out)
            (case side5=>repeat (first|exact (Kd.C_below HR0_6.out HB.out)|(with_reducible refine Kd.C_alloc ?_ _)|(with_reducible refine Kd.C_drewN ?_ _)|(with_reducible refine Kd.C_drew ?_)))
            (case side6=>exact HC0_6.out)
            rintro e w45 ⟨rfl,hb⟩
            have HS7_:=(hb.cell (World.block_lt_of_cell? _ _ (hHeld.2.2.2.2.2.2.2))).trans (hHeld.2.2.2.2.2.2.2)
            refine ⟨_,rfl,?_⟩
            have n0_:=Aside0.mk (Kd.R_below (by (with_reducible repeat (first|apply Kd.R_alloc|apply Kd.R_drewN|apply Kd.R_drew));exact HO_7.out) hb)
            have n1_:=Aside0.mk (blk_below (g:=gb223) (o:=.cells #[.int .i64 a0_0,.int .i64 a0_1,.int .i64 a0_2,.int .i64 a0_3,.slice A0_4 l0_4.length c0_4,.slice A0_5 l0_5.length c0_5,.slice A0_6 l0_6.length c0_6] 34 (0,0)) (by (with_reducible repeat (first|refine blk_drewN ?_ _|refine blk_drew ?_|refine blk_alloc ?_ _));exact BK223.out) hb)
            have n2_:=Aside0.mk (below_step (by repeat (first|exact HB.out|apply below_alloc|apply pw_below_drewN|apply below_drew1|refine below_set ?_ GE223.out)) hb)
            clear HO_7
            clear BK223
            clear HB
            have HO_7:=n0_
            have BK223:=n1_
            have HB:=n2_
            clear n0_ n1_ n2_
            (try clear hb)
            (try clear hb2)
            (try clear hk)
            (try clear hi)
            refine hK.out _ _ ⟨(blk_cell BK223.out 0).trans rfl,(blk_cell BK223.out 1).trans rfl,(blk_cell BK223.out 2).trans rfl,(blk_cell BK223.out 3).trans rfl,(blk_cell BK223.out 4).trans rfl,(blk_cell BK223.out 5).trans rfl,(blk_cell BK223.out 6).trans rfl,HS7_⟩ (fun hHeld=>?_)
            clear hK K
            refine norm_ (a':=?_) ?_ ?_
            rotate_left
            ·show Act.put _ (some 57) _=_
             simp only [Act.put,List.setIfInBounds_toArray,List.set_cons_zero,List.set_cons_succ,i64_w,i32_w]
             rfl
            refine pure_ (i:=8) (N:=some 59) (v:=?_) (a':=?_) #[true,true,true,true,true,true,true,true,true,true,true,false,false,false] rfl rfl (any_of HT_.out (by kernel_rfl)) (fun _ _ _ h=>h) (Or.inl ⟨by rfl,?_⟩) ?_ ?_
            rotate_left
            ·intro w'
             go_simp
             with_reducible rfl
            rotate_left
            ·simp only [Act.put,List.setIfInBounds_toArray,List.set_cons_zero,List.set_cons_succ,i64_w,i32_w]
             rfl
            refine one_ (i:=11) (N:=some 62) #[true,true,true,true,true,true,true,true,true,true,true,true,false,false] rfl rfl (one_of HT_.out (by kernel_rfl)) (by decide) (fun K hK=>?_)
            refine goes_ Try.func41 (by kernel_rfl) rfl #[.int .i64 (wrap64 (t239*a2)),.int .i64 a0_0] (by rfl) rfl rfl (by (try simp only [List.map_toArray,List.map_cons,List.map_nil]);first|done|rfl|(simp only [List.length_drop,List.length_take];rfl)) ?_
            with_reducible refine (spec_l9Floor.calls (wrap64 (t239*a2)) a0_0 t240 _ A31.out).mono ?_
            rintro e w' ⟨rfl,⟨nd,rfl⟩⟩
            refine ⟨_,rfl,?_⟩
            refine hK.out _ _ ⟨(blk_cell BK223.out 0).trans rfl,(blk_cell BK223.out 1).trans rfl,(blk_cell BK223.out 2).trans rfl,(blk_cell BK223.out 3).trans rfl,(blk_cell BK223.out 4).trans rfl,(blk_cell BK223.out 5).trans rfl,(blk_cell BK223.out 6).trans rfl,hHeld.2.2.2.2.2.2.2⟩ (fun hHeld=>?_)
            clear hK K
            refine norm_ (a':=?_) ?_ ?_
            rotate_left
            ·show Act.put _ (some 62) _=_
             simp only [Act.put,List.setIfInBounds_toArray,List.set_cons_zero,List.set_cons_succ,i64_w,i32_w]
             rfl
            refine pure_ (i:=12) (N:=some 63) (v:=?_) (a':=?_) #[true,true,true,true,true,true,true,true,true,true,true,true,true,false] rfl rfl (any_of HT_.out (by kernel_rfl)) (fun _ _ _ h=>h) (Or.inl ⟨by rfl,?_⟩) ?_ ?_
            rotate_left
            ·intro w'
             go_simp
             with_reducible rfl
            rotate_left
            ·simp only [Act.put,List.setIfInBounds_toArray,List.set_cons_zero,List.set_cons_succ,i64_w,i32_w]
             rfl
            refine pure_ (i:=13) (N:=some 9) (v:=?_) (a':=?_) #[true,true,true,true,true,true,true,true,true,true,true,true,true,true] rfl rfl (any_of HT_.out (by kernel_rfl)) (fun _ _ _ h=>h) (Or.inl ⟨by rfl,?_⟩) ?_ ?_
            rotate_left
            ·intro w'
             go_simp
             with_reducible rfl
            rotate_left
            ·simp only [Act.put,List.setIfInBounds_toArray,List.set_cons_zero,List.set_cons_succ,i64_w,i32_w]
             rfl
            refine done_ (done_of HT_.out (by kernel_rfl)) ?_
            try go_wp2
            go_roundg k3
            case measure=>have:=HJ3.out;have:=HK2.out;have:=HK3.out;omega
            case rel=>exact ⟨(wrap64 (x9_3+t240)),(wrap64 (x10_3+1)),(by first|rfl|(simp;done)|(simp [*];done)),(by first|rfl|(simp;done)|(simp [*];done)),H',⟨by have:=HJ3.out;have:=HK2.out;have:=HK3.out;omega⟩,⟨by (with_reducible repeat (first|apply Kd.R_alloc|apply Kd.R_drewN|apply Kd.R_drew));exact HO_7.out⟩,⟨by (with_reducible repeat (first|refine blk_drewN ?_ _|refine blk_drew ?_|refine blk_alloc ?_ _));exact BK223.out⟩,⟨by repeat (first|exact HB.out|apply below_alloc|apply pw_below_drewN|apply below_drew1|refine below_set ?_ GE223.out)⟩⟩
          ·rw [if_neg c29] at H
           exact absurd H (by simp)
         ·rw [if_neg c28] at H
          have c28b0:decide (x10_3<(t234.length:Int))=false:=decide_eq_false c28
          clear c28
          by_cases c46:x9_3<0
          ·rw [if_pos c46] at H
           have c46b0:decide (x9_3<0)=true:=decide_eq_true c46
           clear c46
           obtain rfl:=Option.some.inj H
           obtain ⟨Ao47,co47,eo47⟩:=Kd.R_slice HO_7.out
           subst eo47
           go_wp2
           go_ret
           exact ⟨by first|rfl|(simp [errW_none,errW_some]<;>rfl)|(simp [*,errW_none,errW_some]<;>rfl),by repeat (first|exact HB.out|apply below_alloc|apply pw_below_drewN|apply below_drew1|refine below_set ?_ GE223.out)⟩
          ·rw [if_neg c46] at H
           have c46b0:decide (x9_3<0)=false:=decide_eq_false c46
           clear c46
           replace H:=Option.bind_eq_some_iff.mp H
           obtain ⟨t237,A480,H⟩:=H
           replace H:(some t237)=some r:=H
           have A48:=Aside0.mk A480
           clear A480
           obtain rfl:=Option.some.inj H
           obtain ⟨Ao49,co49,eo49⟩:=Kd.R_slice HO_7.out
           subst eo49
           go_wp2_with (first|((with_reducible refine gate_callee (f:=44) rfl ?_);refine goesL_ (some 87) rfl rfl Try.func44 (by kernel_rfl) rfl #[.int .i64 x9_3] rfl (by (try simp only [List.map_toArray,List.map_cons,List.map_nil]);first|done|rfl|(simp only [List.length_drop,List.length_take];rfl)) ?_;(with_reducible refine (spec_l9Clamp.calls x9_3 t237 _ A48.out).mono ?_);rintro e w' ⟨rfl,⟨nd,rfl⟩⟩;refine ⟨_,rfl,?_⟩))
           go_ret
           exact ⟨by first|rfl|(simp [errW_none,errW_some]<;>rfl)|(simp [*,errW_none,errW_some]<;>rfl),by repeat (first|exact HB.out|apply below_alloc|apply pw_below_drewN|apply below_drew1|refine below_set ?_ GE223.out)⟩
end Go.Proofs.Ytiinihponcojkaa.QFnExactAdvance
