/- Written by a program (wip/tools/own_print.py) out of the walk that the kit's printer made; turned where it fell. -/
-- PRINTED by print.py (a twelfth state) out of the translation. Not trusted: Lean checks it.
import Derived.Test.YtiinihponcojkaaQFnExactAdvancex0
import Derived.Test.YtiinihponcojkaaQFnExactAdvancex4
namespace Go.Proofs.Ytiinihponcojkaa.QFnExactAdvance
open Go.RowKit Go.Proofs.YtiinihponcojkaaV.PrintWords Go.Proofs.YtiinihponcojkaaV.PrintLast Go.Proofs.YtiinihponcojkaaV.PrintMore
attribute [local go_sem] max2_int min2_int max_two min_two max_three min_three max_four min_four   -- for this text's walks alone
set_option linter.unusedVariables false
set_option linter.unusedSimpArgs false
private theorem blkf7 {w:World} {g:Nat} {t:TypeId} {c0 c1 c2 c3 c4 c5 c6:Value} (h:w.heap[g]?=some (.cells #[c0,c1,c2,c3,c4,c5,c6] t (0,0))):w.cell? ⟨g,0,none⟩=some c0∧w.cell? ⟨g,1,none⟩=some c1∧w.cell? ⟨g,2,none⟩=some c2∧w.cell? ⟨g,3,none⟩=some c3∧w.cell? ⟨g,4,none⟩=some c4∧w.cell? ⟨g,5,none⟩=some c5∧w.cell? ⟨g,6,none⟩=some c6∧w.frozen? ⟨g,0,none⟩=false∧w.frozen? ⟨g,1,none⟩=false∧w.frozen? ⟨g,2,none⟩=false∧w.frozen? ⟨g,3,none⟩=false∧w.frozen? ⟨g,4,none⟩=false∧w.frozen? ⟨g,5,none⟩=false∧w.frozen? ⟨g,6,none⟩=false:=⟨(blk_cell h 0).trans rfl,(blk_cell h 1).trans rfl,(blk_cell h 2).trans rfl,(blk_cell h 3).trans rfl,(blk_cell h 4).trans rfl,(blk_cell h 5).trans rfl,(blk_cell h 6).trans rfl,blk_frozen h 0,blk_frozen h 1,blk_frozen h 2,blk_frozen h 3,blk_frozen h 4,blk_frozen h 5,blk_frozen h 6⟩
/-! ### spec_FontOk: function 22 -/
mutual
def spec_FontOk.j0:Nat→Bool→Int→Int→Int→Int→List (S79)→List (S81)→List (S84)→Option (Bool)
  |0,_,_,_,_,_,_,_,_=>none
  |k+1,x27,x177000,x177001,x177002,x177003,x177004,x177005,x177006=>if x27=true then (some false) else (if (x177004.length:Int) > 1000 then (spec_FontOk.j1 k true x177000 x177001 x177002 x177003 x177004 x177005 x177006) else (if (x177005.length:Int) > 1000 then (spec_FontOk.j1 k true x177000 x177001 x177002 x177003 x177004 x177005 x177006) else (spec_FontOk.j1 k (decide ((x177006.length:Int) > 1000)) x177000 x177001 x177002 x177003 x177004 x177005 x177006)))
def spec_FontOk.j1:Nat→Bool→Int→Int→Int→Int→List (S79)→List (S81)→List (S84)→Option (Bool)
  |0,_,_,_,_,_,_,_,_=>none
  |k+1,x43,x177000,x177001,x177002,x177003,x177004,x177005,x177006=>if x43=true then (some false) else (spec_FontOk.l0 k 0 x177000 x177001 x177002 x177003 x177004 x177005 x177006)
def spec_FontOk.l0:Nat→Int→Int→Int→Int→Int→List (S79)→List (S81)→List (S84)→Option (Bool)
  |0,_,_,_,_,_,_,_,_=>none
  |k+1,x3,x177000,x177001,x177002,x177003,x177004,x177005,x177006=>if x3<(x177004.length:Int) then (if 0≤x3 then ((spec_l12In.f ((rd_T79 x177004 x3).f1) 0 10000).bind fun t182=>(if t182=true then (if x3 > 0 then (if 0≤(wrap64 (x3 - 1)) then (if (wrap64 (x3 - 1))<(x177004.length:Int) then (if ((rd_T79 x177004 (wrap64 (x3 - 1))).f0)≥((rd_T79 x177004 x3).f0) then (some false) else (spec_FontOk.l0 k (wrap64 (x3+1)) x177000 x177001 x177002 x177003 x177004 x177005 x177006)) else (none)) else (none)) else (spec_FontOk.l0 k (wrap64 (x3+1)) x177000 x177001 x177002 x177003 x177004 x177005 x177006)) else (some false))) else (none)) else (spec_FontOk.l1 k 0 x177000 x177001 x177002 x177003 x177004 x177005 x177006)
def spec_FontOk.l1:Nat→Int→Int→Int→Int→Int→List (S79)→List (S81)→List (S84)→Option (Bool)
  |0,_,_,_,_,_,_,_,_=>none
  |k+1,x4,x177000,x177001,x177002,x177003,x177004,x177005,x177006=>if x4<(x177005.length:Int) then (if 0≤x4 then ((spec_l12In.f ((rd_T81 x177005 x4).f2) (-10000) 10000).bind fun t186=>(if t186=true then (if x4 > 0 then (if 0≤(wrap64 (x4 - 1)) then (if (wrap64 (x4 - 1))<(x177005.length:Int) then ((spec_l12Less.f ((rd_T81 x177005 (wrap64 (x4 - 1))).f0) ((rd_T81 x177005 (wrap64 (x4 - 1))).f1) ((rd_T81 x177005 x4).f0) ((rd_T81 x177005 x4).f1)).bind fun t191=>(if t191=true then (spec_FontOk.l1 k (wrap64 (x4+1)) x177000 x177001 x177002 x177003 x177004 x177005 x177006) else (some false))) else (none)) else (none)) else (spec_FontOk.l1 k (wrap64 (x4+1)) x177000 x177001 x177002 x177003 x177004 x177005 x177006)) else (some false))) else (none)) else (spec_FontOk.l2 k 1 x177000 x177001 x177002 x177003 x177004 x177005 x177006)
def spec_FontOk.l2:Nat→Int→Int→Int→Int→Int→List (S79)→List (S81)→List (S84)→Option (Bool)
  |0,_,_,_,_,_,_,_,_=>none
  |k+1,x5,x177000,x177001,x177002,x177003,x177004,x177005,x177006=>if x5<(x177006.length:Int) then (if 0≤(wrap64 (x5 - 1)) then (if (wrap64 (x5 - 1))<(x177006.length:Int) then (if 0≤x5 then ((spec_l12Less.f ((rd_T84 x177006 (wrap64 (x5 - 1))).f0) ((rd_T84 x177006 (wrap64 (x5 - 1))).f1) ((rd_T84 x177006 x5).f0) ((rd_T84 x177006 x5).f1)).bind fun t196=>(if t196=true then (spec_FontOk.l2 k (wrap64 (x5+1)) x177000 x177001 x177002 x177003 x177004 x177005 x177006) else (some false))) else (none)) else (none)) else (none)) else (some true)
end
def spec_FontOk.f (k:Nat) (a0_0:Int) (a0_1:Int) (a0_2:Int) (a0_3:Int) (l0_4:List (S79)) (l0_5:List (S81)) (l0_6:List (S84)):Option (Bool):=(spec_l12In.f a0_0 1 10000).bind fun t177=>(if t177=true then ((spec_l12In.f a0_1 0 10000).bind fun t178=>(if t178=true then ((spec_l12In.f a0_2 0 10000).bind fun t179=>(if t179=true then ((spec_l12In.f a0_3 0 10000).bind fun t180=>(spec_FontOk.j0 k (!t180) a0_0 a0_1 a0_2 a0_3 l0_4 l0_5 l0_6)) else (spec_FontOk.j0 k true a0_0 a0_1 a0_2 a0_3 l0_4 l0_5 l0_6))) else (spec_FontOk.j0 k true a0_0 a0_1 a0_2 a0_3 l0_4 l0_5 l0_6))) else (spec_FontOk.j0 k true a0_0 a0_1 a0_2 a0_3 l0_4 l0_5 l0_6))
theorem spec_FontOk.mono_l:∀ k,(∀ y0 y1 y2 y3 y4 y5 y6 y7,LeO (spec_FontOk.j0 k y0 y1 y2 y3 y4 y5 y6 y7) (spec_FontOk.j0 (k+1) y0 y1 y2 y3 y4 y5 y6 y7))∧(∀ y0 y1 y2 y3 y4 y5 y6 y7,LeO (spec_FontOk.j1 k y0 y1 y2 y3 y4 y5 y6 y7) (spec_FontOk.j1 (k+1) y0 y1 y2 y3 y4 y5 y6 y7))∧(∀ y0 y1 y2 y3 y4 y5 y6 y7,LeO (spec_FontOk.l0 k y0 y1 y2 y3 y4 y5 y6 y7) (spec_FontOk.l0 (k+1) y0 y1 y2 y3 y4 y5 y6 y7))∧(∀ y0 y1 y2 y3 y4 y5 y6 y7,LeO (spec_FontOk.l1 k y0 y1 y2 y3 y4 y5 y6 y7) (spec_FontOk.l1 (k+1) y0 y1 y2 y3 y4 y5 y6 y7))∧(∀ y0 y1 y2 y3 y4 y5 y6 y7,LeO (spec_FontOk.l2 k y0 y1 y2 y3 y4 y5 y6 y7) (spec_FontOk.l2 (k+1) y0 y1 y2 y3 y4 y5 y6 y7))
 |0=>⟨fun _ _ _ _ _ _ _ _ r h=>by simp [spec_FontOk.j0] at h,fun _ _ _ _ _ _ _ _ r h=>by simp [spec_FontOk.j1] at h,fun _ _ _ _ _ _ _ _ r h=>by simp [spec_FontOk.l0] at h,fun _ _ _ _ _ _ _ _ r h=>by simp [spec_FontOk.l1] at h,fun _ _ _ _ _ _ _ _ r h=>by simp [spec_FontOk.l2] at h⟩
 |k+1=>by
  obtain ⟨ih0,ih1,ih2,ih3,ih4⟩:=spec_FontOk.mono_l k
  refine ⟨?_,?_,?_,?_,?_⟩
  ·intro y0 y1 y2 y3 y4 y5 y6 y7
   unfold spec_FontOk.j0
   repeat' first
  |(with_reducible exact ih0 _ _ _ _ _ _ _ _)
  |(with_reducible exact ih1 _ _ _ _ _ _ _ _)
  |(with_reducible exact ih2 _ _ _ _ _ _ _ _)
  |(with_reducible exact ih3 _ _ _ _ _ _ _ _)
  |(with_reducible exact ih4 _ _ _ _ _ _ _ _)
  |(with_reducible exact LeO.refl _)
  |(with_reducible exact LeO.none _)
  |(with_reducible refine LeO.ite ?_ ?_)
  |(with_reducible refine LeO.bind ?_ (fun _=>?_))
  |exact ih0 _ _ _ _ _ _ _ _
  |exact ih1 _ _ _ _ _ _ _ _
  |exact ih2 _ _ _ _ _ _ _ _
  |exact ih3 _ _ _ _ _ _ _ _
  |exact ih4 _ _ _ _ _ _ _ _
  |exact LeO.none _
  |refine LeO.ite ?_ ?_
  |refine LeO.bind ?_ (fun _=>?_)
  ·intro y0 y1 y2 y3 y4 y5 y6 y7
   unfold spec_FontOk.j1
   repeat' first
  |(with_reducible exact ih0 _ _ _ _ _ _ _ _)
  |(with_reducible exact ih1 _ _ _ _ _ _ _ _)
  |(with_reducible exact ih2 _ _ _ _ _ _ _ _)
  |(with_reducible exact ih3 _ _ _ _ _ _ _ _)
  |(with_reducible exact ih4 _ _ _ _ _ _ _ _)
  |(with_reducible exact LeO.refl _)
  |(with_reducible exact LeO.none _)
  |(with_reducible refine LeO.ite ?_ ?_)
  |(with_reducible refine LeO.bind ?_ (fun _=>?_))
  |exact ih0 _ _ _ _ _ _ _ _
  |exact ih1 _ _ _ _ _ _ _ _
  |exact ih2 _ _ _ _ _ _ _ _
  |exact ih3 _ _ _ _ _ _ _ _
  |exact ih4 _ _ _ _ _ _ _ _
  |exact LeO.none _
  |refine LeO.ite ?_ ?_
  |refine LeO.bind ?_ (fun _=>?_)
  ·intro y0 y1 y2 y3 y4 y5 y6 y7
   unfold spec_FontOk.l0
   repeat' first
  |(with_reducible exact ih0 _ _ _ _ _ _ _ _)
  |(with_reducible exact ih1 _ _ _ _ _ _ _ _)
  |(with_reducible exact ih2 _ _ _ _ _ _ _ _)
  |(with_reducible exact ih3 _ _ _ _ _ _ _ _)
  |(with_reducible exact ih4 _ _ _ _ _ _ _ _)
  |(with_reducible exact LeO.refl _)
  |(with_reducible exact LeO.none _)
  |(with_reducible refine LeO.ite ?_ ?_)
  |(with_reducible refine LeO.bind ?_ (fun _=>?_))
  |exact ih0 _ _ _ _ _ _ _ _
  |exact ih1 _ _ _ _ _ _ _ _
  |exact ih2 _ _ _ _ _ _ _ _
  |exact ih3 _ _ _ _ _ _ _ _
  |exact ih4 _ _ _ _ _ _ _ _
  |exact LeO.none _
  |refine LeO.ite ?_ ?_
  |refine LeO.bind ?_ (fun _=>?_)
  ·intro y0 y1 y2 y3 y4 y5 y6 y7
   unfold spec_FontOk.l1
   repeat' first
  |(with_reducible exact ih0 _ _ _ _ _ _ _ _)
  |(with_reducible exact ih1 _ _ _ _ _ _ _ _)
  |(with_reducible exact ih2 _ _ _ _ _ _ _ _)
  |(with_reducible exact ih3 _ _ _ _ _ _ _ _)
  |(with_reducible exact ih4 _ _ _ _ _ _ _ _)
  |(with_reducible exact LeO.refl _)
  |(with_reducible exact LeO.none _)
  |(with_reducible refine LeO.ite ?_ ?_)
  |(with_reducible refine LeO.bind ?_ (fun _=>?_))
  |exact ih0 _ _ _ _ _ _ _ _
  |exact ih1 _ _ _ _ _ _ _ _
  |exact ih2 _ _ _ _ _ _ _ _
  |exact ih3 _ _ _ _ _ _ _ _
  |exact ih4 _ _ _ _ _ _ _ _
  |exact LeO.none _
  |refine LeO.ite ?_ ?_
  |refine LeO.bind ?_ (fun _=>?_)
  ·intro y0 y1 y2 y3 y4 y5 y6 y7
   unfold spec_FontOk.l2
   repeat' first
  |(with_reducible exact ih0 _ _ _ _ _ _ _ _)
  |(with_reducible exact ih1 _ _ _ _ _ _ _ _)
  |(with_reducible exact ih2 _ _ _ _ _ _ _ _)
  |(with_reducible exact ih3 _ _ _ _ _ _ _ _)
  |(with_reducible exact ih4 _ _ _ _ _ _ _ _)
  |(with_reducible exact LeO.refl _)
  |(with_reducible exact LeO.none _)
  |(with_reducible refine LeO.ite ?_ ?_)
  |(with_reducible refine LeO.bind ?_ (fun _=>?_))
  |exact ih0 _ _ _ _ _ _ _ _
  |exact ih1 _ _ _ _ _ _ _ _
  |exact ih2 _ _ _ _ _ _ _ _
  |exact ih3 _ _ _ _ _ _ _ _
  |exact ih4 _ _ _ _ _ _ _ _
  |exact LeO.none _
  |refine LeO.ite ?_ ?_
  |refine LeO.bind ?_ (fun _=>?_)
theorem spec_FontOk.mono:∀ a0 a1 a2 a3 a4 a5 a6 k,LeO (spec_FontOk.f k a0 a1 a2 a3 a4 a5 a6) (spec_FontOk.f (k+1) a0 a1 a2 a3 a4 a5 a6):=by
 intro a0 a1 a2 a3 a4 a5 a6 k
 obtain ⟨ih0,ih1,ih2,ih3,ih4⟩:=spec_FontOk.mono_l k
 unfold spec_FontOk.f
 repeat' first
  |(with_reducible exact ih0 _ _ _ _ _ _ _ _)
  |(with_reducible exact ih1 _ _ _ _ _ _ _ _)
  |(with_reducible exact ih2 _ _ _ _ _ _ _ _)
  |(with_reducible exact ih3 _ _ _ _ _ _ _ _)
  |(with_reducible exact ih4 _ _ _ _ _ _ _ _)
  |(with_reducible exact LeO.refl _)
  |(with_reducible exact LeO.none _)
  |(with_reducible refine LeO.ite ?_ ?_)
  |(with_reducible refine LeO.bind ?_ (fun _=>?_))
  |exact ih0 _ _ _ _ _ _ _ _
  |exact ih1 _ _ _ _ _ _ _ _
  |exact ih2 _ _ _ _ _ _ _ _
  |exact ih3 _ _ _ _ _ _ _ _
  |exact ih4 _ _ _ _ _ _ _ _
  |exact LeO.none _
  |refine LeO.ite ?_ ?_
  |refine LeO.bind ?_ (fun _=>?_)
def spec_FontOk.T8:Bool×List (List Nat×List Nat):=(true,[([],[]),([0],[0]),([],[]),([1,2],[1,2]),([3],[3]),([4],[4]),([5],[5]),([6],[6]),([7,6],[7]),([8],[8]),([9,8],[8,9]),([10,8,8],[8,10]),([11],[11]),([12,11],[11,12]),([11],[11]),([14,11],[11,14]),([13,15,11],[11,13,15]),([16,11],[11,16]),([17,11],[11,17]),([11],[11]),([19,11],[11,19]),([11],[11]),([20,21,11],[11,20,21]),([22,11],[11,22]),([23,11],[11,23]),([18,24,11],[11,18,24]),([11,25,8],[8,11,25]),([8,26],[8,26])])
def spec_FontOk.B8:List Nat:=[0,1,0,7,15,31,63,127,255,511,1023,2047,4095,8191,4095,20479,65535,131071,262143,4095,528383,4095,3674111,7868415,16257023,33554431,67108863,134217727]
theorem spec_FontOk.tab8:rtab .any (opsOf Try.f22 8)=spec_FontOk.T8:=by kernel_rfl
theorem spec_FontOk.bits8:waitsOk spec_FontOk.T8.2 spec_FontOk.B8=true:=by kernel_rfl
def spec_FontOk.T15:Bool×List (List Nat×List Nat):=(true,[([],[]),([0],[0]),([1],[1]),([2],[2]),([3,2],[2,3]),([2],[2]),([5,2],[2,5]),([4,6,2],[2,4,6]),([7,2],[2,7]),([8,2],[2,8]),([2],[2]),([10,2],[2,10]),([2],[2]),([12,2],[2,12]),([11,13,2],[2,11,13]),([14,2],[2,14]),([15,2],[2,15]),([2],[2]),([17,2],[2,17]),([2],[2]),([18,19,2],[2,18,19]),([20,2],[2,20]),([21,2],[2,21]),([2],[2]),([23,2],[2,23]),([2],[2]),([24,25,2],[2,24,25]),([26,2],[2,26]),([27,2],[2,27]),([9,16,22,28,2,2],[2,9,16,22,28]),([29,2],[2,29]),([2,30],[2,30])])
def spec_FontOk.B15:List Nat:=[0,1,3,7,15,7,39,127,255,511,7,1031,7,4103,15367,31751,64519,7,131079,7,917511,1966087,4063239,7,8388615,7,58720263,125829127,260046855,536870911,1073741823,2147483647]
theorem spec_FontOk.tab15:rtab .any (opsOf Try.f22 15)=spec_FontOk.T15:=by kernel_rfl
theorem spec_FontOk.bits15:waitsOk spec_FontOk.T15.2 spec_FontOk.B15=true:=by kernel_rfl
def spec_FontOk.T20:Bool×List (List Nat×List Nat):=(true,[([],[]),([0],[0]),([],[]),([2],[2]),([1,3],[1,3]),([4],[4]),([5],[5]),([],[]),([7],[7]),([],[]),([9],[9]),([8,10],[8,10]),([11],[11]),([12],[12]),([],[]),([14],[14]),([],[]),([15,16],[15,16]),([17],[17]),([18],[18]),([],[]),([20],[20]),([],[]),([21,22],[21,22]),([23],[23]),([24],[24]),([6,13,19,25],[6,13,19,25]),([26],[26])])
def spec_FontOk.B20:List Nat:=[0,1,0,4,15,31,63,0,128,0,512,1920,3968,8064,0,16384,0,114688,245760,507904,0,1048576,0,7340032,15728640,32505856,67108863,134217727]
theorem spec_FontOk.tab20:rtab .any (opsOf Try.f22 20)=spec_FontOk.T20:=by kernel_rfl
theorem spec_FontOk.bits20:waitsOk spec_FontOk.T20.2 spec_FontOk.B20=true:=by kernel_rfl
set_option maxHeartbeats 8000000 in
set_option maxRecDepth 100000 in
theorem spec_FontOk.calls (k:Nat) (a0_0:Int) (a0_1:Int) (a0_2:Int) (a0_3:Int) (A0_4:Option Addr) (c0_4:Nat) (l0_4:List (S79)) (A0_5:Option Addr) (c0_5:Nat) (l0_5:List (S81)) (A0_6:Option Addr) (c0_6:Nat) (l0_6:List (S84)) (r:Bool) (w:World) (hr0_4:Kd.C k79 w A0_4 l0_4.length l0_4) (hc0_4:l0_4.length≤c0_4) (hr0_5:Kd.C k81 w A0_5 l0_5.length l0_5) (hc0_5:l0_5.length≤c0_5) (hr0_6:Kd.C k84 w A0_6 l0_6.length l0_6) (hc0_6:l0_6.length≤c0_6) (h:spec_FontOk.f k a0_0 a0_1 a0_2 a0_3 l0_4 l0_5 l0_6=some r) :
  Calls Try.prog 22 #[.agg #[.int .i64 a0_0,.int .i64 a0_1,.int .i64 a0_2,.int .i64 a0_3,.slice A0_4 l0_4.length c0_4,.slice A0_5 l0_5.length c0_5,.slice A0_6 l0_6.length c0_6]] w fun e w'=>e=.returned (.bool r)∧Below w.heap.size w w':=by
 have hu34:=Try.underlying34
 have HR0_4:=Aside0.mk hr0_4
 have HC0_4:=Aside0.mk hc0_4
 clear hr0_4 hc0_4
 have HR0_5:=Aside0.mk hr0_5
 have HC0_5:=Aside0.mk hc0_5
 clear hr0_5 hc0_5
 have HR0_6:=Aside0.mk hr0_6
 have HC0_6:=Aside0.mk hc0_6
 clear hr0_6 hc0_6
 have HB:=Aside0.mk (Below.refl w.heap.size w)
 have H:((spec_l12In.f a0_0 1 10000).bind fun t177=>(if t177=true then ((spec_l12In.f a0_1 0 10000).bind fun t178=>(if t178=true then ((spec_l12In.f a0_2 0 10000).bind fun t179=>(if t179=true then ((spec_l12In.f a0_3 0 10000).bind fun t180=>(spec_FontOk.j0 k (!t180) a0_0 a0_1 a0_2 a0_3 l0_4 l0_5 l0_6)) else (spec_FontOk.j0 k true a0_0 a0_1 a0_2 a0_3 l0_4 l0_5 l0_6))) else (spec_FontOk.j0 k true a0_0 a0_1 a0_2 a0_3 l0_4 l0_5 l0_6))) else (spec_FontOk.j0 k true a0_0 a0_1 a0_2 a0_3 l0_4 l0_5 l0_6)))=some r:=h
 clear h
 have HC2:=Aside0.mk H
 clear H
 go_enter Try.func22,Try.ntmps22
 go_upto_region 1 with (first|((with_reducible refine gate_dst (N:=1) rfl ?_);(try (refine gate_guard (by rfl) ?_;dsimp only));refine box_event ?hg (N:=1) ?hd (cs:=#[.int .i64 a0_0,.int .i64 a0_1,.int .i64 a0_2,.int .i64 a0_3,.slice A0_4 l0_4.length c0_4,.slice A0_5 l0_5.length c0_5,.slice A0_6 l0_6.length c0_6]) (t:=34) ?hr ?_;(case hd=>rfl);(case hg=>rfl);(case hr=>first|(go_simp;done)|(go_simp;rfl));intro gb176 hg w3 hbox hb;have n0_:=Aside0.mk (below_step (by repeat (first|(with_reducible first|exact HB.out|apply below_alloc|apply pw_below_drewN|apply below_drew1)|exact HB.out)) hb);have n1_:=Aside0.mk (hbox);have n2_:=Aside0.mk ((by rw [hg];exact (below_size (by repeat (first|(with_reducible first|exact HB.out|apply below_alloc|apply pw_below_drewN|apply below_drew1)|exact HB.out))):w.heap.size≤gb176));have n3_:=Aside0.mk ((by rw [hg];exact (below_size (by repeat (first|(with_reducible first|exact HB.out|apply below_alloc|apply pw_below_drewN|apply below_drew1)|exact HB.out))):w.heap.size≤gb176));clear HB;have HB:=n0_;have BK176:=n1_;have GW176:=n2_;have GE176:=n3_;clear n0_ n1_ n2_ n3_;clear hb hbox hg))
 (try simp only [Act.put,List.setIfInBounds_toArray,List.set_cons_zero,List.set_cons_succ])
 go_cut [27] (fun v27 wc=>∃ (kq:Nat) (x27_1:Bool),v27=.bool x27_1∧Aside0 (spec_FontOk.j0 kq x27_1 a0_0 a0_1 a0_2 a0_3 l0_4 l0_5 l0_6=some r)∧Aside0 (kq≤k)∧Aside0 (wc.heap[gb176]?=some (.cells #[.int .i64 a0_0,.int .i64 a0_1,.int .i64 a0_2,.int .i64 a0_3,(.slice A0_4 l0_4.length c0_4),(.slice A0_5 l0_5.length c0_5),(.slice A0_6 l0_6.length c0_6)] 34 (0,0)))∧Aside0 (Below w.heap.size w wc))
 case first=>
  have H:=HC2.out
  clear HC2
  replace H:=Option.bind_eq_some_iff.mp H
  obtain ⟨t177,A40,H⟩:=H
  replace H:(if t177=true then ((spec_l12In.f a0_1 0 10000).bind fun t178=>(if t178=true then ((spec_l12In.f a0_2 0 10000).bind fun t179=>(if t179=true then ((spec_l12In.f a0_3 0 10000).bind fun t180=>(spec_FontOk.j0 k (!t180) a0_0 a0_1 a0_2 a0_3 l0_4 l0_5 l0_6)) else (spec_FontOk.j0 k true a0_0 a0_1 a0_2 a0_3 l0_4 l0_5 l0_6))) else (spec_FontOk.j0 k true a0_0 a0_1 a0_2 a0_3 l0_4 l0_5 l0_6))) else (spec_FontOk.j0 k true a0_0 a0_1 a0_2 a0_3 l0_4 l0_5 l0_6))=some r:=H
  have A4:=Aside0.mk A40
  clear A40
  by_cases c5:t177=true
  ·subst c5
   have H1:((spec_l12In.f a0_1 0 10000).bind fun t178=>(if t178=true then ((spec_l12In.f a0_2 0 10000).bind fun t179=>(if t179=true then ((spec_l12In.f a0_3 0 10000).bind fun t180=>(spec_FontOk.j0 k (!t180) a0_0 a0_1 a0_2 a0_3 l0_4 l0_5 l0_6)) else (spec_FontOk.j0 k true a0_0 a0_1 a0_2 a0_3 l0_4 l0_5 l0_6))) else (spec_FontOk.j0 k true a0_0 a0_1 a0_2 a0_3 l0_4 l0_5 l0_6)))=some r:=by rw [if_pos rfl] at H;exact H
   clear H
   have H:=H1
   clear H1
   replace H:=Option.bind_eq_some_iff.mp H
   obtain ⟨t178,A60,H⟩:=H
   replace H:(if t178=true then ((spec_l12In.f a0_2 0 10000).bind fun t179=>(if t179=true then ((spec_l12In.f a0_3 0 10000).bind fun t180=>(spec_FontOk.j0 k (!t180) a0_0 a0_1 a0_2 a0_3 l0_4 l0_5 l0_6)) else (spec_FontOk.j0 k true a0_0 a0_1 a0_2 a0_3 l0_4 l0_5 l0_6))) else (spec_FontOk.j0 k true a0_0 a0_1 a0_2 a0_3 l0_4 l0_5 l0_6))=some r:=H
   have A6:=Aside0.mk A60
   clear A60
   by_cases c7:t178=true
   ·subst c7
    have H1:((spec_l12In.f a0_2 0 10000).bind fun t179=>(if t179=true then ((spec_l12In.f a0_3 0 10000).bind fun t180=>(spec_FontOk.j0 k (!t180) a0_0 a0_1 a0_2 a0_3 l0_4 l0_5 l0_6)) else (spec_FontOk.j0 k true a0_0 a0_1 a0_2 a0_3 l0_4 l0_5 l0_6)))=some r:=by rw [if_pos rfl] at H;exact H
    clear H
    have H:=H1
    clear H1
    replace H:=Option.bind_eq_some_iff.mp H
    obtain ⟨t179,A80,H⟩:=H
    replace H:(if t179=true then ((spec_l12In.f a0_3 0 10000).bind fun t180=>(spec_FontOk.j0 k (!t180) a0_0 a0_1 a0_2 a0_3 l0_4 l0_5 l0_6)) else (spec_FontOk.j0 k true a0_0 a0_1 a0_2 a0_3 l0_4 l0_5 l0_6))=some r:=H
    have A8:=Aside0.mk A80
    clear A80
    by_cases c9:t179=true
    ·subst c9
     have H1:((spec_l12In.f a0_3 0 10000).bind fun t180=>(spec_FontOk.j0 k (!t180) a0_0 a0_1 a0_2 a0_3 l0_4 l0_5 l0_6))=some r:=by rw [if_pos rfl] at H;exact H
     clear H
     have H:=H1
     clear H1
     replace H:=Option.bind_eq_some_iff.mp H
     obtain ⟨t180,A100,H⟩:=H
     replace H:(spec_FontOk.j0 k (!t180) a0_0 a0_1 a0_2 a0_3 l0_4 l0_5 l0_6)=some r:=H
     have A10:=Aside0.mk A100
     clear A100
     have H':=Aside0.mk H
     clear H
     obtain ⟨hcz11_0,hcz11_1,hcz11_2,hcz11_3,hcz11_4,hcz11_5,hcz11_6,hfz11_0,hfz11_1,hfz11_2,hfz11_3,hfz11_4,hfz11_5,hfz11_6⟩:=blkf7 BK176.out
     go_wp2_with (first|((with_reducible refine gate_callee (f:=52) rfl ?_);refine goesL_ (some 8) rfl rfl Try.func52 (by kernel_rfl) rfl #[.int .i64 a0_0,.int .i64 1,.int .i64 10000] rfl (by (try simp only [List.map_toArray,List.map_cons,List.map_nil]);first|done|rfl|(simp only [List.length_drop,List.length_take];rfl)) ?_;(with_reducible refine (spec_l12In.calls a0_0 1 10000 true _ A4.out).mono ?_);rintro e w' ⟨rfl,⟨nd,rfl⟩⟩;refine ⟨_,rfl,?_⟩)|(go_at_call 52;(with_reducible refine (spec_l12In.calls a0_1 0 10000 true _ A6.out).mono ?_);rintro e w' ⟨rfl,⟨nd,rfl⟩⟩)|(go_at_call 52;(with_reducible refine (spec_l12In.calls a0_2 0 10000 true _ A8.out).mono ?_);rintro e w' ⟨rfl,⟨nd,rfl⟩⟩)|(go_at_call 52;(with_reducible refine (spec_l12In.calls a0_3 0 10000 t180 _ A10.out).mono ?_);rintro e w' ⟨rfl,⟨nd,rfl⟩⟩))
     go_meet
     case rel=>exact ⟨_,(!t180),(by first|rfl|(simp;done)|(simp [*];done)),H',⟨by first|omega|exact Nat.le_refl _⟩,⟨by (with_reducible repeat (first|refine blk_drewN ?_ _|refine blk_drew ?_|refine blk_alloc ?_ _));exact BK176.out⟩,⟨by repeat (first|exact HB.out|apply below_alloc|apply pw_below_drewN|apply below_drew1|refine below_set ?_ GE176.out)⟩⟩
    ·replace c9:=Bool.eq_false_iff.mpr c9
     subst c9
     have H1:(spec_FontOk.j0 k true a0_0 a0_1 a0_2 a0_3 l0_4 l0_5 l0_6)=some r:=by rw [if_neg (show ¬ (false=true) by decide)] at H;exact H
     clear H
     have H:=H1
     clear H1
     have H':=Aside0.mk H
     clear H
     obtain ⟨hcz12_0,hcz12_1,hcz12_2,hcz12_3,hcz12_4,hcz12_5,hcz12_6,hfz12_0,hfz12_1,hfz12_2,hfz12_3,hfz12_4,hfz12_5,hfz12_6⟩:=blkf7 BK176.out
     go_wp2_with (first|((with_reducible refine gate_callee (f:=52) rfl ?_);refine goesL_ (some 8) rfl rfl Try.func52 (by kernel_rfl) rfl #[.int .i64 a0_0,.int .i64 1,.int .i64 10000] rfl (by (try simp only [List.map_toArray,List.map_cons,List.map_nil]);first|done|rfl|(simp only [List.length_drop,List.length_take];rfl)) ?_;(with_reducible refine (spec_l12In.calls a0_0 1 10000 true _ A4.out).mono ?_);rintro e w' ⟨rfl,⟨nd,rfl⟩⟩;refine ⟨_,rfl,?_⟩)|(go_at_call 52;(with_reducible refine (spec_l12In.calls a0_1 0 10000 true _ A6.out).mono ?_);rintro e w' ⟨rfl,⟨nd,rfl⟩⟩)|(go_at_call 52;(with_reducible refine (spec_l12In.calls a0_2 0 10000 false _ A8.out).mono ?_);rintro e w' ⟨rfl,⟨nd,rfl⟩⟩))
     go_meet
     case rel=>exact ⟨_,(true),(by first|rfl|(simp;done)|(simp [*];done)),H',⟨by first|omega|exact Nat.le_refl _⟩,⟨by (with_reducible repeat (first|refine blk_drewN ?_ _|refine blk_drew ?_|refine blk_alloc ?_ _));exact BK176.out⟩,⟨by repeat (first|exact HB.out|apply below_alloc|apply pw_below_drewN|apply below_drew1|refine below_set ?_ GE176.out)⟩⟩
   ·replace c7:=Bool.eq_false_iff.mpr c7
    subst c7
    have H1:(spec_FontOk.j0 k true a0_0 a0_1 a0_2 a0_3 l0_4 l0_5 l0_6)=some r:=by rw [if_neg (show ¬ (false=true) by decide)] at H;exact H
    clear H
    have H:=H1
    clear H1
    have H':=Aside0.mk H
    clear H
    obtain ⟨hcz13_0,hcz13_1,hcz13_2,hcz13_3,hcz13_4,hcz13_5,hcz13_6,hfz13_0,hfz13_1,hfz13_2,hfz13_3,hfz13_4,hfz13_5,hfz13_6⟩:=blkf7 BK176.out
    go_wp2_with (first|((with_reducible refine gate_callee (f:=52) rfl ?_);refine goesL_ (some 8) rfl rfl Try.func52 (by kernel_rfl) rfl #[.int .i64 a0_0,.int .i64 1,.int .i64 10000] rfl (by (try simp only [List.map_toArray,List.map_cons,List.map_nil]);first|done|rfl|(simp only [List.length_drop,List.length_take];rfl)) ?_;(with_reducible refine (spec_l12In.calls a0_0 1 10000 true _ A4.out).mono ?_);rintro e w' ⟨rfl,⟨nd,rfl⟩⟩;refine ⟨_,rfl,?_⟩)|(go_at_call 52;(with_reducible refine (spec_l12In.calls a0_1 0 10000 false _ A6.out).mono ?_);rintro e w' ⟨rfl,⟨nd,rfl⟩⟩))
    go_meet
    case rel=>exact ⟨_,(true),(by first|rfl|(simp;done)|(simp [*];done)),H',⟨by first|omega|exact Nat.le_refl _⟩,⟨by (with_reducible repeat (first|refine blk_drewN ?_ _|refine blk_drew ?_|refine blk_alloc ?_ _));exact BK176.out⟩,⟨by repeat (first|exact HB.out|apply below_alloc|apply pw_below_drewN|apply below_drew1|refine below_set ?_ GE176.out)⟩⟩
  ·replace c5:=Bool.eq_false_iff.mpr c5
   subst c5
   have H1:(spec_FontOk.j0 k true a0_0 a0_1 a0_2 a0_3 l0_4 l0_5 l0_6)=some r:=by rw [if_neg (show ¬ (false=true) by decide)] at H;exact H
   clear H
   have H:=H1
   clear H1
   have H':=Aside0.mk H
   clear H
   obtain ⟨hcz14_0,hcz14_1,hcz14_2,hcz14_3,hcz14_4,hcz14_5,hcz14_6,hfz14_0,hfz14_1,hfz14_2,hfz14_3,hfz14_4,hfz14_5,hfz14_6⟩:=blkf7 BK176.out
   go_wp2_with (first|((with_reducible refine gate_callee (f:=52) rfl ?_);refine goesL_ (some 8) rfl rfl Try.func52 (by kernel_rfl) rfl #[.int .i64 a0_0,.int .i64 1,.int .i64 10000] rfl (by (try simp only [List.map_toArray,List.map_cons,List.map_nil]);first|done|rfl|(simp only [List.length_drop,List.length_take];rfl)) ?_;(with_reducible refine (spec_l12In.calls a0_0 1 10000 false _ A4.out).mono ?_);rintro e w' ⟨rfl,⟨nd,rfl⟩⟩;refine ⟨_,rfl,?_⟩))
   go_meet
   case rel=>exact ⟨_,(true),(by first|rfl|(simp;done)|(simp [*];done)),H',⟨by first|omega|exact Nat.le_refl _⟩,⟨by (with_reducible repeat (first|refine blk_drewN ?_ _|refine blk_drew ?_|refine blk_alloc ?_ _));exact BK176.out⟩,⟨by repeat (first|exact HB.out|apply below_alloc|apply pw_below_drewN|apply below_drew1|refine below_set ?_ GE176.out)⟩⟩
 case rest=>
  clear HC2
  try clear c2;try clear p2;try clear c5;try clear c7;try clear c9;try clear hcz11_0;try clear hcz11_1;try clear hcz11_2;try clear hcz11_3;try clear hcz11_4;try clear hcz11_5;try clear hcz11_6;try clear hcz12_0;try clear hcz12_1;try clear hcz12_2;try clear hcz12_3;try clear hcz12_4;try clear hcz12_5;try clear hcz12_6;try clear hcz13_0;try clear hcz13_1;try clear hcz13_2;try clear hcz13_3;try clear hcz13_4;try clear hcz13_5;try clear hcz13_6;try clear hcz14_0;try clear hcz14_1;try clear hcz14_2;try clear hcz14_3;try clear hcz14_4;try clear hcz14_5;try clear hcz14_6;try clear hfz11_0;try clear hfz11_1;try clear hfz11_2;try clear hfz11_3;try clear hfz11_4;try clear hfz11_5;try clear hfz11_6;try clear hfz12_0;try clear hfz12_1;try clear hfz12_2;try clear hfz12_3;try clear hfz12_4;try clear hfz12_5;try clear hfz12_6;try clear hfz13_0;try clear hfz13_1;try clear hfz13_2;try clear hfz13_3;try clear hfz13_4;try clear hfz13_5;try clear hfz13_6;try clear hfz14_0;try clear hfz14_1;try clear hfz14_2;try clear hfz14_3;try clear hfz14_4;try clear hfz14_5;try clear hfz14_6
  obtain ⟨kq,x27_1,rfl,HA,HJ1,BK176,HB⟩:=hcut
  cases kq with
 |zero=>exact absurd HA.out (by simp [spec_FontOk.j0])
 |succ kj1=>
   have H:=HA.out
   clear HA
   simp only [spec_FontOk.j0] at H
   by_cases c15:x27_1=true
   ·subst c15
    have H1:(some false)=some r:=by rw [if_pos rfl] at H;exact H
    clear H
    have H:=H1
    clear H1
    obtain rfl:=Option.some.inj H
    go_wp2
    go_ret
    exact ⟨by first|rfl|(simp [errW_none,errW_some]<;>rfl)|(simp [*,errW_none,errW_some]<;>rfl),by repeat (first|exact HB.out|apply below_alloc|apply pw_below_drewN|apply below_drew1|refine below_set ?_ GE176.out)⟩
   ·replace c15:=Bool.eq_false_iff.mpr c15
    subst c15
    have H1:(if (l0_4.length:Int) > 1000 then (spec_FontOk.j1 kj1 true a0_0 a0_1 a0_2 a0_3 l0_4 l0_5 l0_6) else (if (l0_5.length:Int) > 1000 then (spec_FontOk.j1 kj1 true a0_0 a0_1 a0_2 a0_3 l0_4 l0_5 l0_6) else (spec_FontOk.j1 kj1 (decide ((l0_6.length:Int) > 1000)) a0_0 a0_1 a0_2 a0_3 l0_4 l0_5 l0_6)))=some r:=by rw [if_neg (show ¬ (false=true) by decide)] at H;exact H
    clear H
    have H:=H1
    clear H1
    have HC16:=Aside0.mk H
    clear H
    go_upto_region 3 with (fail)
    go_cut [43] (fun v43 wc=>∃ (kq:Nat) (x43_15:Bool),v43=.bool x43_15∧Aside0 (spec_FontOk.j1 kq x43_15 a0_0 a0_1 a0_2 a0_3 l0_4 l0_5 l0_6=some r)∧Aside0 (kq≤kj1)∧Aside0 (wc.heap[gb176]?=some (.cells #[.int .i64 a0_0,.int .i64 a0_1,.int .i64 a0_2,.int .i64 a0_3,(.slice A0_4 l0_4.length c0_4),(.slice A0_5 l0_5.length c0_5),(.slice A0_6 l0_6.length c0_6)] 34 (0,0)))∧Aside0 (Below w.heap.size w wc))
    case first=>
     have H:=HC16.out
     clear HC16
     by_cases c17:(l0_4.length:Int) > 1000
     ·rw [if_pos c17] at H
      have c17b0:decide (1000<(l0_4.length:Int))=true:=decide_eq_true c17
      have c17b1:decide (1000<l0_4.length)=true:=decide_eq_true (by omega)
      clear c17
      (first|rw [c17b0]|(simp only [i64_w,i32_w];rw [c17b0])|rw [c17b1]|skip)
      have H':=Aside0.mk H
      clear H
      obtain ⟨hcz18_0,hcz18_1,hcz18_2,hcz18_3,hcz18_4,hcz18_5,hcz18_6,hfz18_0,hfz18_1,hfz18_2,hfz18_3,hfz18_4,hfz18_5,hfz18_6⟩:=blkf7 BK176.out
      go_wp2
      go_meet
      case rel=>exact ⟨_,(true),(by first|rfl|(simp;done)|(simp [*];done)),H',⟨by have:=HJ1.out;first|omega|exact Nat.le_refl _⟩,⟨by (with_reducible repeat (first|refine blk_drewN ?_ _|refine blk_drew ?_|refine blk_alloc ?_ _));exact BK176.out⟩,⟨by repeat (first|exact HB.out|apply below_alloc|apply pw_below_drewN|apply below_drew1|refine below_set ?_ GE176.out)⟩⟩
     ·rw [if_neg c17] at H
      have c17b0:decide (1000<(l0_4.length:Int))=false:=decide_eq_false c17
      have c17b1:decide (1000<l0_4.length)=false:=decide_eq_false (by omega)
      clear c17
      (first|rw [c17b0]|(simp only [i64_w,i32_w];rw [c17b0])|rw [c17b1]|skip)
      by_cases c19:(l0_5.length:Int) > 1000
      ·rw [if_pos c19] at H
       have c19b0:decide (1000<(l0_5.length:Int))=true:=decide_eq_true c19
       have c19b1:decide (1000<l0_5.length)=true:=decide_eq_true (by omega)
       clear c19
       have H':=Aside0.mk H
       clear H
       obtain ⟨hcz20_0,hcz20_1,hcz20_2,hcz20_3,hcz20_4,hcz20_5,hcz20_6,hfz20_0,hfz20_1,hfz20_2,hfz20_3,hfz20_4,hfz20_5,hfz20_6⟩:=blkf7 BK176.out
       go_wp2
       go_meet
       case rel=>exact ⟨_,(true),(by first|rfl|(simp;done)|(simp [*];done)),H',⟨by have:=HJ1.out;first|omega|exact Nat.le_refl _⟩,⟨by (with_reducible repeat (first|refine blk_drewN ?_ _|refine blk_drew ?_|refine blk_alloc ?_ _));exact BK176.out⟩,⟨by repeat (first|exact HB.out|apply below_alloc|apply pw_below_drewN|apply below_drew1|refine below_set ?_ GE176.out)⟩⟩
      ·rw [if_neg c19] at H
       have c19b0:decide (1000<(l0_5.length:Int))=false:=decide_eq_false c19
       have c19b1:decide (1000<l0_5.length)=false:=decide_eq_false (by omega)
       clear c19
       have H':=Aside0.mk H
       clear H
       obtain ⟨hcz21_0,hcz21_1,hcz21_2,hcz21_3,hcz21_4,hcz21_5,hcz21_6,hfz21_0,hfz21_1,hfz21_2,hfz21_3,hfz21_4,hfz21_5,hfz21_6⟩:=blkf7 BK176.out
       go_wp2
       go_meet
       case rel=>exact ⟨_,(decide ((l0_6.length:Int) > 1000)),(by first|rfl|(simp;done)|(simp [*];done)),H',⟨by have:=HJ1.out;first|omega|exact Nat.le_refl _⟩,⟨by (with_reducible repeat (first|refine blk_drewN ?_ _|refine blk_drew ?_|refine blk_alloc ?_ _));exact BK176.out⟩,⟨by repeat (first|exact HB.out|apply below_alloc|apply pw_below_drewN|apply below_drew1|refine below_set ?_ GE176.out)⟩⟩
    case rest=>
     clear HC16
     try clear c1;try clear c2;try clear p2;try clear c5;try clear c7;try clear c9;try clear c15;try clear c17;try clear c17b0;try clear c17b1;try clear c19;try clear c19b0;try clear c19b1;try clear hcz11_0;try clear hcz11_1;try clear hcz11_2;try clear hcz11_3;try clear hcz11_4;try clear hcz11_5;try clear hcz11_6;try clear hcz12_0;try clear hcz12_1;try clear hcz12_2;try clear hcz12_3;try clear hcz12_4;try clear hcz12_5;try clear hcz12_6;try clear hcz13_0;try clear hcz13_1;try clear hcz13_2;try clear hcz13_3;try clear hcz13_4;try clear hcz13_5;try clear hcz13_6;try clear hcz14_0;try clear hcz14_1;try clear hcz14_2;try clear hcz14_3;try clear hcz14_4;try clear hcz14_5;try clear hcz14_6;try clear hcz18_0;try clear hcz18_1;try clear hcz18_2;try clear hcz18_3;try clear hcz18_4;try clear hcz18_5;try clear hcz18_6;try clear hcz20_0;try clear hcz20_1;try clear hcz20_2;try clear hcz20_3;try clear hcz20_4;try clear hcz20_5;try clear hcz20_6;try clear hcz21_0;try clear hcz21_1;try clear hcz21_2;try clear hcz21_3;try clear hcz21_4;try clear hcz21_5;try clear hcz21_6;try clear hfz11_0;try clear hfz11_1;try clear hfz11_2;try clear hfz11_3;try clear hfz11_4;try clear hfz11_5;try clear hfz11_6;try clear hfz12_0;try clear hfz12_1;try clear hfz12_2;try clear hfz12_3;try clear hfz12_4;try clear hfz12_5;try clear hfz12_6;try clear hfz13_0;try clear hfz13_1;try clear hfz13_2;try clear hfz13_3;try clear hfz13_4;try clear hfz13_5;try clear hfz13_6;try clear hfz14_0;try clear hfz14_1;try clear hfz14_2;try clear hfz14_3;try clear hfz14_4;try clear hfz14_5;try clear hfz14_6;try clear hfz18_0;try clear hfz18_1;try clear hfz18_2;try clear hfz18_3;try clear hfz18_4;try clear hfz18_5;try clear hfz18_6;try clear hfz20_0;try clear hfz20_1;try clear hfz20_2;try clear hfz20_3;try clear hfz20_4;try clear hfz20_5;try clear hfz20_6;try clear hfz21_0;try clear hfz21_1;try clear hfz21_2;try clear hfz21_3;try clear hfz21_4;try clear hfz21_5;try clear hfz21_6;try clear p2
     obtain ⟨kq,x43_15,rfl,HA,HJ15,BK176,HB⟩:=hcut
     cases kq with
    |zero=>exact absurd HA.out (by simp [spec_FontOk.j1])
    |succ kj15=>
      have H:=HA.out
      clear HA
      simp only [spec_FontOk.j1] at H
      by_cases c22:x43_15=true
      ·subst c22
       have H1:(some false)=some r:=by rw [if_pos rfl] at H;exact H
       clear H
       have H:=H1
       clear H1
       obtain rfl:=Option.some.inj H
       go_wp2
       go_ret
       exact ⟨by first|rfl|(simp [errW_none,errW_some]<;>rfl)|(simp [*,errW_none,errW_some]<;>rfl),by repeat (first|exact HB.out|apply below_alloc|apply pw_below_drewN|apply below_drew1|refine below_set ?_ GE176.out)⟩
      ·replace c22:=Bool.eq_false_iff.mpr c22
       subst c22
       have H1:(spec_FontOk.l0 kj15 0 a0_0 a0_1 a0_2 a0_3 l0_4 l0_5 l0_6)=some r:=by rw [if_neg (show ¬ (false=true) by decide)] at H;exact H
       clear H
       have H:=H1
       clear H1
       have H':=Aside0.mk H
       clear H
       go_wp2
       go_loopg [3] kj15 (fun kq v3 w'=>∃ (x3_3:Int),v3=.int .i64 x3_3∧Aside0 (spec_FontOk.l0 kq x3_3 a0_0 a0_1 a0_2 a0_3 l0_4 l0_5 l0_6=some r)∧Aside0 (kq≤kj15)∧Aside0 (w'.heap[gb176]?=some (.cells #[.int .i64 a0_0,.int .i64 a0_1,.int .i64 a0_2,.int .i64 a0_3,(.slice A0_4 l0_4.length c0_4),(.slice A0_5 l0_5.length c0_5),(.slice A0_6 l0_6.length c0_6)] 34 (0,0)))∧Aside0 (Below w.heap.size w w'))
       case atStart=>exact ⟨(0),(by first|rfl|(simp;done)|(simp [*];done)),H',⟨Nat.le_refl _⟩,⟨by (with_reducible repeat (first|refine blk_drewN ?_ _|refine blk_drew ?_|refine blk_alloc ?_ _));exact BK176.out⟩,⟨by repeat (first|exact HB.out|apply below_alloc|apply pw_below_drewN|apply below_drew1|refine below_set ?_ GE176.out)⟩⟩
       case round=>
        clear H'
        try clear c1;try clear c2;try clear p2;try clear c5;try clear c7;try clear c9;try clear c15;try clear c17;try clear c17b0;try clear c17b1;try clear c19;try clear c19b0;try clear c19b1;try clear c22;try clear hcz11_0;try clear hcz11_1;try clear hcz11_2;try clear hcz11_3;try clear hcz11_4;try clear hcz11_5;try clear hcz11_6;try clear hcz12_0;try clear hcz12_1;try clear hcz12_2;try clear hcz12_3;try clear hcz12_4;try clear hcz12_5;try clear hcz12_6;try clear hcz13_0;try clear hcz13_1;try clear hcz13_2;try clear hcz13_3;try clear hcz13_4;try clear hcz13_5;try clear hcz13_6;try clear hcz14_0;try clear hcz14_1;try clear hcz14_2;try clear hcz14_3;try clear hcz14_4;try clear hcz14_5;try clear hcz14_6;try clear hcz18_0;try clear hcz18_1;try clear hcz18_2;try clear hcz18_3;try clear hcz18_4;try clear hcz18_5;try clear hcz18_6;try clear hcz20_0;try clear hcz20_1;try clear hcz20_2;try clear hcz20_3;try clear hcz20_4;try clear hcz20_5;try clear hcz20_6;try clear hcz21_0;try clear hcz21_1;try clear hcz21_2;try clear hcz21_3;try clear hcz21_4;try clear hcz21_5;try clear hcz21_6;try clear hfz11_0;try clear hfz11_1;try clear hfz11_2;try clear hfz11_3;try clear hfz11_4;try clear hfz11_5;try clear hfz11_6;try clear hfz12_0;try clear hfz12_1;try clear hfz12_2;try clear hfz12_3;try clear hfz12_4;try clear hfz12_5;try clear hfz12_6;try clear hfz13_0;try clear hfz13_1;try clear hfz13_2;try clear hfz13_3;try clear hfz13_4;try clear hfz13_5;try clear hfz13_6;try clear hfz14_0;try clear hfz14_1;try clear hfz14_2;try clear hfz14_3;try clear hfz14_4;try clear hfz14_5;try clear hfz14_6;try clear hfz18_0;try clear hfz18_1;try clear hfz18_2;try clear hfz18_3;try clear hfz18_4;try clear hfz18_5;try clear hfz18_6;try clear hfz20_0;try clear hfz20_1;try clear hfz20_2;try clear hfz20_3;try clear hfz20_4;try clear hfz20_5;try clear hfz20_6;try clear hfz21_0;try clear hfz21_1;try clear hfz21_2;try clear hfz21_3;try clear hfz21_4;try clear hfz21_5;try clear hfz21_6;try clear p2
        obtain ⟨x3_3,rfl,HA,HK3,BK176,HB⟩:=hrel
        cases gk with
       |zero=>exact absurd HA.out (by simp [spec_FontOk.l0])
       |succ k3=>
         have H:=HA.out
         clear HA
         simp only [spec_FontOk.l0] at H
         by_cases c23:x3_3<(l0_4.length:Int)
         ·rw [if_pos c23] at H
          have c23b0:decide (x3_3<(l0_4.length:Int))=true:=decide_eq_true c23
          clear c23
          by_cases c24:0≤x3_3
          ·rw [if_pos c24] at H
           have c24b0:decide (0≤x3_3)=true:=decide_eq_true c24
           clear c24
           replace H:=Option.bind_eq_some_iff.mp H
           obtain ⟨t182,A250,H⟩:=H
           replace H:(if t182=true then (if x3_3 > 0 then (if 0≤(wrap64 (x3_3 - 1)) then (if (wrap64 (x3_3 - 1))<(l0_4.length:Int) then (if ((rd_T79 l0_4 (wrap64 (x3_3 - 1))).f0)≥((rd_T79 l0_4 x3_3).f0) then (some false) else (spec_FontOk.l0 k3 (wrap64 (x3_3+1)) a0_0 a0_1 a0_2 a0_3 l0_4 l0_5 l0_6)) else (none)) else (none)) else (spec_FontOk.l0 k3 (wrap64 (x3_3+1)) a0_0 a0_1 a0_2 a0_3 l0_4 l0_5 l0_6)) else (some false))=some r:=H
           have A25:=Aside0.mk A250
           clear A250
           by_cases c26:t182=true
           ·subst c26
            have H1:(if x3_3 > 0 then (if 0≤(wrap64 (x3_3 - 1)) then (if (wrap64 (x3_3 - 1))<(l0_4.length:Int) then (if ((rd_T79 l0_4 (wrap64 (x3_3 - 1))).f0)≥((rd_T79 l0_4 x3_3).f0) then (some false) else (spec_FontOk.l0 k3 (wrap64 (x3_3+1)) a0_0 a0_1 a0_2 a0_3 l0_4 l0_5 l0_6)) else (none)) else (none)) else (spec_FontOk.l0 k3 (wrap64 (x3_3+1)) a0_0 a0_1 a0_2 a0_3 l0_4 l0_5 l0_6))=some r:=by rw [if_pos rfl] at H;exact H
            clear H
            have H:=H1
            clear H1
            by_cases c27:x3_3 > 0
            ·rw [if_pos c27] at H
             have c27b0:decide (0<x3_3)=true:=decide_eq_true c27
             clear c27
             obtain ⟨ji28,hji28⟩:∃ j_:Int,(wrap64 (x3_3 - 1))=j_:=⟨_,rfl⟩
             replace H:(if 0≤(ji28) then (if (ji28)<(l0_4.length:Int) then (if ((rd_T79 l0_4 (ji28)).f0)≥((rd_T79 l0_4 x3_3).f0) then (some false) else (spec_FontOk.l0 k3 (wrap64 (x3_3+1)) a0_0 a0_1 a0_2 a0_3 l0_4 l0_5 l0_6)) else (none)) else (none))=some r:=by first|(rw [hji28] at H;exact H)|(simp only [hji28] at H ⊢;exact H)
             (try rw [hji28] at A25)
             have hji28w:(IntKind.i64.wrap (x3_3 - 1))=ji28:=(i64_w _).trans hji28
             by_cases c29:0≤(ji28)
             ·rw [if_pos c29] at H
              have c29b0:decide (0≤(ji28))=true:=decide_eq_true c29
              clear c29
              by_cases c30:(ji28)<(l0_4.length:Int)
              ·rw [if_pos c30] at H
               have c30b0:decide ((ji28)<(l0_4.length:Int))=true:=decide_eq_true c30
               clear c30
               by_cases c31:((rd_T79 l0_4 (ji28)).f0)≥((rd_T79 l0_4 x3_3).f0)
               ·rw [if_pos c31] at H
                have c31b0:decide (((rd_T79 l0_4 x3_3).f0)≤((rd_T79 l0_4 (ji28)).f0))=true:=decide_eq_true c31
                clear c31
                obtain rfl:=Option.some.inj H
                obtain ⟨hcz32_0,hcz32_1,hcz32_2,hcz32_3,hcz32_4,hcz32_5,hcz32_6,hfz32_0,hfz32_1,hfz32_2,hfz32_3,hfz32_4,hfz32_5,hfz32_6⟩:=blkf7 BK176.out
                try go_wp2
                have n0_:=Aside0.mk (blk_drew BK176.out)
                have n1_:=Aside0.mk (below_drew1 HB.out)
                clear BK176
                clear HB
                have BK176:=n0_
                have HB:=n1_
                clear n0_ n1_
                have p181:0≤(x3_3:Int):=of_decide_eq_true (by first|(with_reducible assumption)|assumption)
                have q181:x3_3<(l0_4.length:Int):=of_decide_eq_true (by first|(with_reducible assumption)|assumption)
                obtain ⟨ad181,e181,hx181_0,hx181_1⟩:=at_T79 HR0_4.out x3_3 p181 q181
                have hw181_1:=hx181_1
                have hw181_0:=hx181_0
                cases e181
                replace hx181_0:=pw_cell_below HB.out hx181_0
                replace hx181_1:=pw_cell_below HB.out hx181_1
                replace p181:=eq_true p181
                replace q181:=eq_true q181
                have p183:0≤((ji28):Int):=of_decide_eq_true (by first|(with_reducible assumption)|assumption)
                have q183:(ji28)<(l0_4.length:Int):=of_decide_eq_true (by first|(with_reducible assumption)|assumption)
                obtain ⟨ad183,e183,hx183_0,hx183_1⟩:=at_T79 HR0_4.out (ji28) p183 q183
                have hw183_1:=hx183_1
                have hw183_0:=hx183_0
                obtain rfl:ad181=ad183:=(by injection e183)
                replace hx183_0:=pw_cell_below HB.out hx183_0
                replace hx183_1:=pw_cell_below HB.out hx183_1
                replace p183:=eq_true p183
                replace q183:=eq_true q183
                have p184:0≤(x3_3:Int):=of_decide_eq_true (by first|(with_reducible assumption)|assumption)
                have q184:x3_3<(l0_4.length:Int):=of_decide_eq_true (by first|(with_reducible assumption)|assumption)
                obtain ⟨ad184,e184,hx184_0,hx184_1⟩:=at_T79 HR0_4.out x3_3 p184 q184
                have hw184_1:=hx184_1
                have hw184_0:=hx184_0
                obtain rfl:ad181=ad184:=(by injection e184)
                replace hx184_0:=pw_cell_below HB.out hx184_0
                replace hx184_1:=pw_cell_below HB.out hx184_1
                replace p184:=eq_true p184
                replace q184:=eq_true q184
                refine start_ (n:=28) (S:=fun w'=>w'.cell? ⟨gb176,0,none⟩=some (.int .i64 a0_0)∧w'.cell? ⟨gb176,1,none⟩=some (.int .i64 a0_1)∧w'.cell? ⟨gb176,2,none⟩=some (.int .i64 a0_2)∧w'.cell? ⟨gb176,3,none⟩=some (.int .i64 a0_3)∧w'.cell? ⟨gb176,4,none⟩=some (.slice (some ad181) l0_4.length c0_4)∧w'.cell? ⟨gb176,5,none⟩=some (.slice A0_5 l0_5.length c0_5)∧w'.cell? ⟨gb176,6,none⟩=some (.slice A0_6 l0_6.length c0_6)∧w'.cell? (ad181.add ((x3_3).toNat*2))=some (.int .i64 ((rd_T79 l0_4 x3_3).f0))∧w'.cell? ⟨(ad181.add ((x3_3).toNat*2)).block,(ad181.add ((x3_3).toNat*2)).off+1,none⟩=some (.int .i64 ((rd_T79 l0_4 x3_3).f1))∧w'.cell? (ad181.add (((ji28)).toNat*2))=some (.int .i64 ((rd_T79 l0_4 (ji28)).f0))∧w'.cell? ⟨(ad181.add (((ji28)).toNat*2)).block,(ad181.add (((ji28)).toNat*2)).off+1,none⟩=some (.int .i64 ((rd_T79 l0_4 (ji28)).f1))∧w'.cell? (ad181.add ((x3_3).toNat*2))=some (.int .i64 ((rd_T79 l0_4 x3_3).f0))∧w'.cell? ⟨(ad181.add ((x3_3).toNat*2)).block,(ad181.add ((x3_3).toNat*2)).off+1,none⟩=some (.int .i64 ((rd_T79 l0_4 x3_3).f1))) (ds:=[]) #[false,false,false,false,false,false,false,false,false,false,false,false,false,false,false,false,false,false,false,false,false,false,false,false,false,false,false,false] (by kernel_rfl) rfl rfl ⟨(blk_cell BK176.out 0).trans rfl,(blk_cell BK176.out 1).trans rfl,(blk_cell BK176.out 2).trans rfl,(blk_cell BK176.out 3).trans rfl,(blk_cell BK176.out 4).trans rfl,(blk_cell BK176.out 5).trans rfl,(blk_cell BK176.out 6).trans rfl,((HB.out.cell (World.block_lt_of_cell? w _ hw181_0)).trans hw181_0),((HB.out.cell (World.block_lt_of_cell? w _ hw181_1)).trans hw181_1),((HB.out.cell (World.block_lt_of_cell? w _ hw183_0)).trans hw183_0),((HB.out.cell (World.block_lt_of_cell? w _ hw183_1)).trans hw183_1),((HB.out.cell (World.block_lt_of_cell? w _ hw184_0)).trans hw184_0),((HB.out.cell (World.block_lt_of_cell? w _ hw184_1)).trans hw184_1)⟩ (fun hHeld=>?_);refine with_tabW spec_FontOk.tab8 spec_FontOk.bits8 (fun HT_ HW_=>?_)
                generalize wr.drew=w33 at BK176 HB hx181_0 hx181_1 hx183_0 hx183_1 hx184_0 hx184_1 hHeld ⊢
                refine pure_ (i:=0) (N:=some 51) (v:=?_) (a':=?_) #[true,false,false,false,false,false,false,false,false,false,false,false,false,false,false,false,false,false,false,false,false,false,false,false,false,false,false,false] rfl rfl (any_of HT_.out (by kernel_rfl)) (fun _ _ _ h=>h) (Or.inl ⟨by rfl,?_⟩) ?_ ?_
                rotate_left
                ·intro w'
                 go_simp
                 with_reducible rfl
                rotate_left
                ·simp only [Act.put,List.setIfInBounds_toArray,List.set_cons_zero,List.set_cons_succ,i64_w,i32_w]
                 rfl
                refine pure_ (i:=2) (N:=some 53) (v:=?_) (a':=?_) #[true,false,true,false,false,false,false,false,false,false,false,false,false,false,false,false,false,false,false,false,false,false,false,false,false,false,false,false] rfl rfl (any_of HT_.out (by kernel_rfl)) (fun _ _ _ h=>h) (Or.inl ⟨by rfl,?_⟩) ?_ ?_
                rotate_left
                ·intro w'
                 go_simp
                 with_reducible rfl
                rotate_left
                ·simp only [Act.put,List.setIfInBounds_toArray,List.set_cons_zero,List.set_cons_succ,i64_w,i32_w]
                 rfl
                refine take_ (i:=1) (N:=some 52) (v:=?_) (a':=?_) #[true,true,true,false,false,false,false,false,false,false,false,false,false,false,false,false,false,false,false,false,false,false,false,false,false,false,false,false] rfl rfl (take_ofW HT_.out HW_.out (by kernel_rfl)) (fun _ _ _ h=>h) (Or.inl ⟨by rfl,?_⟩) hHeld ?_ ?_
                rotate_left
                ·rintro w' ⟨s0,s1,s2,s3,s4,s5,s6,s7,s8,s9,s10,s11,s12⟩
                 go_simp
                 with_reducible rfl
                rotate_left
                ·simp only [Act.put,List.setIfInBounds_toArray,List.set_cons_zero,List.set_cons_succ,i64_w,i32_w]
                 rfl
                refine pure_ (i:=3) (N:=some 54) (v:=?_) (a':=?_) #[true,true,true,true,false,false,false,false,false,false,false,false,false,false,false,false,false,false,false,false,false,false,false,false,false,false,false,false] rfl rfl (any_of HT_.out (by kernel_rfl)) (fun _ _ _ h=>h) (Or.inl ⟨by rfl,?_⟩) ?_ ?_
                rotate_left
                ·intro w'
                 go_simp
                 with_reducible rfl
                rotate_left
                ·simp only [Act.put,List.setIfInBounds_toArray,List.set_cons_zero,List.set_cons_succ,i64_w,i32_w]
                 rfl
                refine pure_ (i:=4) (N:=some 55) (v:=?_) (a':=?_) #[true,true,true,true,true,false,false,false,false,false,false,false,false,false,false,false,false,false,false,false,false,false,false,false,false,false,false,false] rfl rfl (any_of HT_.out (by kernel_rfl)) (fun _ _ _ h=>h) (Or.inl ⟨by rfl,?_⟩) ?_ ?_
                rotate_left
                ·intro w'
                 go_simp
                 with_reducible rfl
                rotate_left
                ·simp only [Act.put,List.setIfInBounds_toArray,List.set_cons_zero,List.set_cons_succ,i64_w,i32_w]
                 rfl
                refine take_ (i:=5) (N:=some 56) (v:=?_) (a':=?_) #[true,true,true,true,true,true,false,false,false,false,false,false,false,false,false,false,false,false,false,false,false,false,false,false,false,false,false,false] rfl rfl (take_ofW HT_.out HW_.out (by kernel_rfl)) (fun _ _ _ h=>h) (Or.inl ⟨by rfl,?_⟩) hHeld ?_ ?_
                rotate_left
                ·rintro w' ⟨s0,s1,s2,s3,s4,s5,s6,s7,s8,s9,s10,s11,s12⟩
                 go_simp
                 with_reducible rfl
                rotate_left
                ·simp only [Act.put,List.setIfInBounds_toArray,List.set_cons_zero,List.set_cons_succ,i64_w,i32_w]
                 rfl
                refine one_ (i:=6) (N:=some 57) #[true,true,true,true,true,true,true,false,false,false,false,false,false,false,false,false,false,false,false,false,false,false,false,false,false,false,false,false] rfl rfl (one_of HT_.out (by kernel_rfl)) (by decide) (fun K hK=>?_)
                refine goes_ Try.func52 (by kernel_rfl) rfl #[.int .i64 ((rd_T79 l0_4 x3_3).f1),.int .i64 0,.int .i64 10000] (by rfl) rfl rfl (by (try simp only [List.map_toArray,List.map_cons,List.map_nil]);first|done|rfl|(simp only [List.length_drop,List.length_take];rfl)) ?_
                with_reducible refine (spec_l12In.calls ((rd_T79 l0_4 x3_3).f1) 0 10000 true _ A25.out).mono ?_
                rintro e w' ⟨rfl,⟨nd,rfl⟩⟩
                refine ⟨_,rfl,?_⟩
                refine hK.out _ _ ⟨(blk_cell BK176.out 0).trans rfl,(blk_cell BK176.out 1).trans rfl,(blk_cell BK176.out 2).trans rfl,(blk_cell BK176.out 3).trans rfl,(blk_cell BK176.out 4).trans rfl,(blk_cell BK176.out 5).trans rfl,(blk_cell BK176.out 6).trans rfl,((HB.out.cell (World.block_lt_of_cell? w _ hw181_0)).trans hw181_0),((HB.out.cell (World.block_lt_of_cell? w _ hw181_1)).trans hw181_1),((HB.out.cell (World.block_lt_of_cell? w _ hw183_0)).trans hw183_0),((HB.out.cell (World.block_lt_of_cell? w _ hw183_1)).trans hw183_1),((HB.out.cell (World.block_lt_of_cell? w _ hw184_0)).trans hw184_0),((HB.out.cell (World.block_lt_of_cell? w _ hw184_1)).trans hw184_1)⟩ (fun hHeld=>?_)
                clear hK K
                refine norm_ (a':=?_) ?_ ?_
                rotate_left
                ·show Act.put _ (some 57) _=_
                 simp only [Act.put,List.setIfInBounds_toArray,List.set_cons_zero,List.set_cons_succ,i64_w,i32_w]
                 rfl
                refine pure_ (i:=7) (N:=some 58) (v:=?_) (a':=?_) #[true,true,true,true,true,true,true,true,false,false,false,false,false,false,false,false,false,false,false,false,false,false,false,false,false,false,false,false] rfl rfl (any_of HT_.out (by kernel_rfl)) (fun _ _ _ h=>h) (Or.inl ⟨by rfl,?_⟩) ?_ ?_
                rotate_left
                ·intro w'
                 go_simp
                 with_reducible rfl
                rotate_left
                ·simp only [Act.put,List.setIfInBounds_toArray,List.set_cons_zero,List.set_cons_succ,i64_w,i32_w]
                 rfl
                refine pure_ (i:=8) (N:=some 59) (v:=?_) (a':=?_) #[true,true,true,true,true,true,true,true,true,false,false,false,false,false,false,false,false,false,false,false,false,false,false,false,false,false,false,false] rfl rfl (any_of HT_.out (by kernel_rfl)) (fun _ _ _ h=>h) (Or.inl ⟨by rfl,?_⟩) ?_ ?_
                rotate_left
                ·intro w'
                 go_simp
                 with_reducible rfl
                rotate_left
                ·simp only [Act.put,List.setIfInBounds_toArray,List.set_cons_zero,List.set_cons_succ,i64_w,i32_w]
                 rfl
                refine pure_ (i:=9) (N:=some 60) (v:=?_) (a':=?_) #[true,true,true,true,true,true,true,true,true,true,false,false,false,false,false,false,false,false,false,false,false,false,false,false,false,false,false,false] rfl rfl (any_of HT_.out (by kernel_rfl)) (fun _ _ _ h=>h) (Or.inl ⟨by rfl,?_⟩) ?_ ?_
                rotate_left
                ·intro w'
                 go_simp
                 with_reducible rfl
                rotate_left
                ·simp only [Act.put,List.setIfInBounds_toArray,List.set_cons_zero,List.set_cons_succ,i64_w,i32_w]
                 rfl
                refine pure_ (i:=10) (N:=some 61) (v:=?_) (a':=?_) #[true,true,true,true,true,true,true,true,true,true,true,false,false,false,false,false,false,false,false,false,false,false,false,false,false,false,false,false] rfl rfl (any_of HT_.out (by kernel_rfl)) (fun _ _ _ h=>h) (Or.inl ⟨by rfl,?_⟩) ?_ ?_
                rotate_left
                ·intro w'
                 go_simp
                 with_reducible rfl
                rotate_left
                ·simp only [Act.put,List.setIfInBounds_toArray,List.set_cons_zero,List.set_cons_succ,i64_w,i32_w]
                 rfl
                refine pure_ (i:=11) (N:=some 62) (v:=?_) (a':=?_) #[true,true,true,true,true,true,true,true,true,true,true,true,false,false,false,false,false,false,false,false,false,false,false,false,false,false,false,false] rfl rfl (any_of HT_.out (by kernel_rfl)) (fun _ _ _ h=>h) (Or.inl ⟨by rfl,?_⟩) ?_ ?_
                rotate_left
                ·intro w'
                 go_simp
                 with_reducible rfl
                rotate_left
                ·simp only [Act.put,List.setIfInBounds_toArray,List.set_cons_zero,List.set_cons_succ,i64_w,i32_w]
                 rfl
                refine pure_ (i:=12) (N:=some 63) (v:=?_) (a':=?_) #[true,true,true,true,true,true,true,true,true,true,true,true,true,false,false,false,false,false,false,false,false,false,false,false,false,false,false,false] rfl rfl (any_of HT_.out (by kernel_rfl)) (fun _ _ _ h=>h) (Or.inl ⟨by rfl,?_⟩) ?_ ?_
                rotate_left
                ·intro w'
                 go_simp
                 with_reducible rfl
                rotate_left
                ·simp only [Act.put,List.setIfInBounds_toArray,List.set_cons_zero,List.set_cons_succ,i64_w,i32_w]
                 rfl
                refine pure_ (i:=14) (N:=some 65) (v:=?_) (a':=?_) #[true,true,true,true,true,true,true,true,true,true,true,true,true,false,true,false,false,false,false,false,false,false,false,false,false,false,false,false] rfl rfl (any_of HT_.out (by kernel_rfl)) (fun _ _ _ h=>h) (Or.inl ⟨by rfl,?_⟩) ?_ ?_
                rotate_left
                ·intro w'
                 go_simp
                 with_reducible rfl
                rotate_left
                ·simp only [Act.put,List.setIfInBounds_toArray,List.set_cons_zero,List.set_cons_succ,i64_w,i32_w]
                 rfl
                refine pure_ (i:=15) (N:=some 66) (v:=?_) (a':=?_) #[true,true,true,true,true,true,true,true,true,true,true,true,true,false,true,true,false,false,false,false,false,false,false,false,false,false,false,false] rfl rfl (any_of HT_.out (by kernel_rfl)) (fun _ _ _ h=>h) (Or.inl ⟨by rfl,?_⟩) ?_ ?_
                rotate_left
                ·intro w'
                 go_simp
                 with_reducible rfl
                rotate_left
                ·simp only [Act.put,List.setIfInBounds_toArray,List.set_cons_zero,List.set_cons_succ,i64_w,i32_w]
                 rfl
                refine pure_ (i:=19) (N:=some 70) (v:=?_) (a':=?_) #[true,true,true,true,true,true,true,true,true,true,true,true,true,false,true,true,false,false,false,true,false,false,false,false,false,false,false,false] rfl rfl (any_of HT_.out (by kernel_rfl)) (fun _ _ _ h=>h) (Or.inl ⟨by rfl,?_⟩) ?_ ?_
                rotate_left
                ·intro w'
                 go_simp
                 with_reducible rfl
                rotate_left
                ·simp only [Act.put,List.setIfInBounds_toArray,List.set_cons_zero,List.set_cons_succ,i64_w,i32_w]
                 rfl
                refine pure_ (i:=21) (N:=some 72) (v:=?_) (a':=?_) #[true,true,true,true,true,true,true,true,true,true,true,true,true,false,true,true,false,false,false,true,false,true,false,false,false,false,false,false] rfl rfl (any_of HT_.out (by kernel_rfl)) (fun _ _ _ h=>h) (Or.inl ⟨by rfl,?_⟩) ?_ ?_
                rotate_left
                ·intro w'
                 go_simp
                 with_reducible rfl
                rotate_left
                ·simp only [Act.put,List.setIfInBounds_toArray,List.set_cons_zero,List.set_cons_succ,i64_w,i32_w]
                 rfl
                refine take_ (i:=13) (N:=some 64) (v:=?_) (a':=?_) #[true,true,true,true,true,true,true,true,true,true,true,true,true,true,true,true,false,false,false,true,false,true,false,false,false,false,false,false] rfl rfl (take_ofW HT_.out HW_.out (by kernel_rfl)) (fun _ _ _ h=>h) (Or.inl ⟨by rfl,?_⟩) hHeld ?_ ?_
                rotate_left
                ·rintro w' ⟨s0,s1,s2,s3,s4,s5,s6,s7,s8,s9,s10,s11,s12⟩
                 go_simp
                 with_reducible rfl
                rotate_left
                ·simp only [Act.put,List.setIfInBounds_toArray,List.set_cons_zero,List.set_cons_succ,i64_w,i32_w]
                 rfl
                refine pure_ (i:=16) (N:=some 67) (v:=?_) (a':=?_) #[true,true,true,true,true,true,true,true,true,true,true,true,true,true,true,true,true,false,false,true,false,true,false,false,false,false,false,false] rfl rfl (any_of HT_.out (by kernel_rfl)) (fun _ _ _ h=>h) (Or.inl ⟨by rfl,?_⟩) ?_ ?_
                rotate_left
                ·intro w'
                 go_simp
                 with_reducible rfl
                rotate_left
                ·simp only [Act.put,List.setIfInBounds_toArray,List.set_cons_zero,List.set_cons_succ,i64_w,i32_w]
                 rfl
                refine pure_ (i:=17) (N:=some 68) (v:=?_) (a':=?_) #[true,true,true,true,true,true,true,true,true,true,true,true,true,true,true,true,true,true,false,true,false,true,false,false,false,false,false,false] rfl rfl (any_of HT_.out (by kernel_rfl)) (fun _ _ _ h=>h) (Or.inl ⟨by rfl,?_⟩) ?_ ?_
                rotate_left
                ·intro w'
                 go_simp
                 with_reducible rfl
                rotate_left
                ·simp only [Act.put,List.setIfInBounds_toArray,List.set_cons_zero,List.set_cons_succ,i64_w,i32_w]
                 rfl
                refine take_ (i:=18) (N:=some 69) (v:=?_) (a':=?_) #[true,true,true,true,true,true,true,true,true,true,true,true,true,true,true,true,true,true,true,true,false,true,false,false,false,false,false,false] rfl rfl (take_ofW HT_.out HW_.out (by kernel_rfl)) (fun _ _ _ h=>h) (Or.inl ⟨by rfl,?_⟩) hHeld ?_ ?_
                rotate_left
                ·rintro w' ⟨s0,s1,s2,s3,s4,s5,s6,s7,s8,s9,s10,s11,s12⟩
                 go_simp
                 with_reducible rfl
                rotate_left
                ·simp only [Act.put,List.setIfInBounds_toArray,List.set_cons_zero,List.set_cons_succ,i64_w,i32_w]
                 rfl
                refine take_ (i:=20) (N:=some 71) (v:=?_) (a':=?_) #[true,true,true,true,true,true,true,true,true,true,true,true,true,true,true,true,true,true,true,true,true,true,false,false,false,false,false,false] rfl rfl (take_ofW HT_.out HW_.out (by kernel_rfl)) (fun _ _ _ h=>h) (Or.inl ⟨by rfl,?_⟩) hHeld ?_ ?_
                rotate_left
                ·rintro w' ⟨s0,s1,s2,s3,s4,s5,s6,s7,s8,s9,s10,s11,s12⟩
                 go_simp
                 with_reducible rfl
                rotate_left
                ·simp only [Act.put,List.setIfInBounds_toArray,List.set_cons_zero,List.set_cons_succ,i64_w,i32_w]
                 rfl
                refine pure_ (i:=22) (N:=some 73) (v:=?_) (a':=?_) #[true,true,true,true,true,true,true,true,true,true,true,true,true,true,true,true,true,true,true,true,true,true,true,false,false,false,false,false] rfl rfl (any_of HT_.out (by kernel_rfl)) (fun _ _ _ h=>h) (Or.inl ⟨by rfl,?_⟩) ?_ ?_
                rotate_left
                ·intro w'
                 go_simp
                 with_reducible rfl
                rotate_left
                ·simp only [Act.put,List.setIfInBounds_toArray,List.set_cons_zero,List.set_cons_succ,i64_w,i32_w]
                 rfl
                refine pure_ (i:=23) (N:=some 74) (v:=?_) (a':=?_) #[true,true,true,true,true,true,true,true,true,true,true,true,true,true,true,true,true,true,true,true,true,true,true,true,false,false,false,false] rfl rfl (any_of HT_.out (by kernel_rfl)) (fun _ _ _ h=>h) (Or.inl ⟨by rfl,?_⟩) ?_ ?_
                rotate_left
                ·intro w'
                 go_simp
                 with_reducible rfl
                rotate_left
                ·simp only [Act.put,List.setIfInBounds_toArray,List.set_cons_zero,List.set_cons_succ,i64_w,i32_w]
                 rfl
                refine take_ (i:=24) (N:=some 75) (v:=?_) (a':=?_) #[true,true,true,true,true,true,true,true,true,true,true,true,true,true,true,true,true,true,true,true,true,true,true,true,true,false,false,false] rfl rfl (take_ofW HT_.out HW_.out (by kernel_rfl)) (fun _ _ _ h=>h) (Or.inl ⟨by rfl,?_⟩) hHeld ?_ ?_
                rotate_left
                ·rintro w' ⟨s0,s1,s2,s3,s4,s5,s6,s7,s8,s9,s10,s11,s12⟩
                 go_simp
                 with_reducible rfl
                rotate_left
                ·simp only [Act.put,List.setIfInBounds_toArray,List.set_cons_zero,List.set_cons_succ,i64_w,i32_w]
                 rfl
                refine pure_ (i:=25) (N:=some 76) (v:=?_) (a':=?_) #[true,true,true,true,true,true,true,true,true,true,true,true,true,true,true,true,true,true,true,true,true,true,true,true,true,true,false,false] rfl rfl (any_of HT_.out (by kernel_rfl)) (fun _ _ _ h=>h) (Or.inl ⟨by rfl,?_⟩) ?_ ?_
                rotate_left
                ·intro w'
                 go_simp
                 with_reducible rfl
                rotate_left
                ·simp only [Act.put,List.setIfInBounds_toArray,List.set_cons_zero,List.set_cons_succ,i64_w,i32_w]
                 rfl
                refine pure_ (i:=26) (N:=some 77) (v:=?_) (a':=?_) #[true,true,true,true,true,true,true,true,true,true,true,true,true,true,true,true,true,true,true,true,true,true,true,true,true,true,true,false] rfl rfl (any_of HT_.out (by kernel_rfl)) (fun _ _ _ h=>h) (Or.inl ⟨by rfl,?_⟩) ?_ ?_
                rotate_left
                ·intro w'
                 go_simp
                 with_reducible rfl
                rotate_left
                ·simp only [Act.put,List.setIfInBounds_toArray,List.set_cons_zero,List.set_cons_succ,i64_w,i32_w]
                 rfl
                refine pure_ (i:=27) (N:=some 78) (v:=?_) (a':=?_) #[true,true,true,true,true,true,true,true,true,true,true,true,true,true,true,true,true,true,true,true,true,true,true,true,true,true,true,true] rfl rfl (any_of HT_.out (by kernel_rfl)) (fun _ _ _ h=>h) (Or.inl ⟨by rfl,?_⟩) ?_ ?_
                rotate_left
                ·intro w'
                 go_simp
                 with_reducible rfl
                rotate_left
                ·simp only [Act.put,List.setIfInBounds_toArray,List.set_cons_zero,List.set_cons_succ,i64_w,i32_w]
                 rfl
                refine done_ (done_of HT_.out (by kernel_rfl)) ?_
                try go_wp2
                go_ret
                exact ⟨by first|rfl|(simp [errW_none,errW_some]<;>rfl)|(simp only [← hji28];first|rfl|(simp [errW_none,errW_some]<;>rfl))|(simp [*,errW_none,errW_some]<;>rfl),by repeat (first|exact HB.out|apply below_alloc|apply pw_below_drewN|apply below_drew1|refine below_set ?_ GE176.out)⟩
               ·rw [if_neg c31] at H
                have c31b0:decide (((rd_T79 l0_4 x3_3).f0)≤((rd_T79 l0_4 (ji28)).f0))=false:=decide_eq_false c31
                clear c31
                have H':=Aside0.mk H
                clear H
                obtain ⟨hcz34_0,hcz34_1,hcz34_2,hcz34_3,hcz34_4,hcz34_5,hcz34_6,hfz34_0,hfz34_1,hfz34_2,hfz34_3,hfz34_4,hfz34_5,hfz34_6⟩:=blkf7 BK176.out
                try go_wp2
                have n0_:=Aside0.mk (blk_drew BK176.out)
                have n1_:=Aside0.mk (below_drew1 HB.out)
                clear BK176
                clear HB
                have BK176:=n0_
                have HB:=n1_
                clear n0_ n1_
                have p181:0≤(x3_3:Int):=of_decide_eq_true (by first|(with_reducible assumption)|assumption)
                have q181:x3_3<(l0_4.length:Int):=of_decide_eq_true (by first|(with_reducible assumption)|assumption)
                obtain ⟨ad181,e181,hx181_0,hx181_1⟩:=at_T79 HR0_4.out x3_3 p181 q181
                have hw181_1:=hx181_1
                have hw181_0:=hx181_0
                cases e181
                replace hx181_0:=pw_cell_below HB.out hx181_0
                replace hx181_1:=pw_cell_below HB.out hx181_1
                replace p181:=eq_true p181
                replace q181:=eq_true q181
                have p183:0≤((ji28):Int):=of_decide_eq_true (by first|(with_reducible assumption)|assumption)
                have q183:(ji28)<(l0_4.length:Int):=of_decide_eq_true (by first|(with_reducible assumption)|assumption)
                obtain ⟨ad183,e183,hx183_0,hx183_1⟩:=at_T79 HR0_4.out (ji28) p183 q183
                have hw183_1:=hx183_1
                have hw183_0:=hx183_0
                obtain rfl:ad181=ad183:=(by injection e183)
                replace hx183_0:=pw_cell_below HB.out hx183_0
                replace hx183_1:=pw_cell_below HB.out hx183_1
                replace p183:=eq_true p183
                replace q183:=eq_true q183
                have p184:0≤(x3_3:Int):=of_decide_eq_true (by first|(with_reducible assumption)|assumption)
                have q184:x3_3<(l0_4.length:Int):=of_decide_eq_true (by first|(with_reducible assumption)|assumption)
                obtain ⟨ad184,e184,hx184_0,hx184_1⟩:=at_T79 HR0_4.out x3_3 p184 q184
                have hw184_1:=hx184_1
                have hw184_0:=hx184_0
                obtain rfl:ad181=ad184:=(by injection e184)
                replace hx184_0:=pw_cell_below HB.out hx184_0
                replace hx184_1:=pw_cell_below HB.out hx184_1
                replace p184:=eq_true p184
                replace q184:=eq_true q184
                refine start_ (n:=28) (S:=fun w'=>w'.cell? ⟨gb176,0,none⟩=some (.int .i64 a0_0)∧w'.cell? ⟨gb176,1,none⟩=some (.int .i64 a0_1)∧w'.cell? ⟨gb176,2,none⟩=some (.int .i64 a0_2)∧w'.cell? ⟨gb176,3,none⟩=some (.int .i64 a0_3)∧w'.cell? ⟨gb176,4,none⟩=some (.slice (some ad181) l0_4.length c0_4)∧w'.cell? ⟨gb176,5,none⟩=some (.slice A0_5 l0_5.length c0_5)∧w'.cell? ⟨gb176,6,none⟩=some (.slice A0_6 l0_6.length c0_6)∧w'.cell? (ad181.add ((x3_3).toNat*2))=some (.int .i64 ((rd_T79 l0_4 x3_3).f0))∧w'.cell? ⟨(ad181.add ((x3_3).toNat*2)).block,(ad181.add ((x3_3).toNat*2)).off+1,none⟩=some (.int .i64 ((rd_T79 l0_4 x3_3).f1))∧w'.cell? (ad181.add (((ji28)).toNat*2))=some (.int .i64 ((rd_T79 l0_4 (ji28)).f0))∧w'.cell? ⟨(ad181.add (((ji28)).toNat*2)).block,(ad181.add (((ji28)).toNat*2)).off+1,none⟩=some (.int .i64 ((rd_T79 l0_4 (ji28)).f1))∧w'.cell? (ad181.add ((x3_3).toNat*2))=some (.int .i64 ((rd_T79 l0_4 x3_3).f0))∧w'.cell? ⟨(ad181.add ((x3_3).toNat*2)).block,(ad181.add ((x3_3).toNat*2)).off+1,none⟩=some (.int .i64 ((rd_T79 l0_4 x3_3).f1))) (ds:=[]) #[false,false,false,false,false,false,false,false,false,false,false,false,false,false,false,false,false,false,false,false,false,false,false,false,false,false,false,false] (by kernel_rfl) rfl rfl ⟨(blk_cell BK176.out 0).trans rfl,(blk_cell BK176.out 1).trans rfl,(blk_cell BK176.out 2).trans rfl,(blk_cell BK176.out 3).trans rfl,(blk_cell BK176.out 4).trans rfl,(blk_cell BK176.out 5).trans rfl,(blk_cell BK176.out 6).trans rfl,((HB.out.cell (World.block_lt_of_cell? w _ hw181_0)).trans hw181_0),((HB.out.cell (World.block_lt_of_cell? w _ hw181_1)).trans hw181_1),((HB.out.cell (World.block_lt_of_cell? w _ hw183_0)).trans hw183_0),((HB.out.cell (World.block_lt_of_cell? w _ hw183_1)).trans hw183_1),((HB.out.cell (World.block_lt_of_cell? w _ hw184_0)).trans hw184_0),((HB.out.cell (World.block_lt_of_cell? w _ hw184_1)).trans hw184_1)⟩ (fun hHeld=>?_);refine with_tabW spec_FontOk.tab8 spec_FontOk.bits8 (fun HT_ HW_=>?_)
                generalize wr.drew=w35 at BK176 HB hx181_0 hx181_1 hx183_0 hx183_1 hx184_0 hx184_1 hHeld ⊢
                refine pure_ (i:=0) (N:=some 51) (v:=?_) (a':=?_) #[true,false,false,false,false,false,false,false,false,false,false,false,false,false,false,false,false,false,false,false,false,false,false,false,false,false,false,false] rfl rfl (any_of HT_.out (by kernel_rfl)) (fun _ _ _ h=>h) (Or.inl ⟨by rfl,?_⟩) ?_ ?_
                rotate_left
                ·intro w'
                 go_simp
                 with_reducible rfl
                rotate_left
                ·simp only [Act.put,List.setIfInBounds_toArray,List.set_cons_zero,List.set_cons_succ,i64_w,i32_w]
                 rfl
                refine pure_ (i:=2) (N:=some 53) (v:=?_) (a':=?_) #[true,false,true,false,false,false,false,false,false,false,false,false,false,false,false,false,false,false,false,false,false,false,false,false,false,false,false,false] rfl rfl (any_of HT_.out (by kernel_rfl)) (fun _ _ _ h=>h) (Or.inl ⟨by rfl,?_⟩) ?_ ?_
                rotate_left
                ·intro w'
                 go_simp
                 with_reducible rfl
                rotate_left
                ·simp only [Act.put,List.setIfInBounds_toArray,List.set_cons_zero,List.set_cons_succ,i64_w,i32_w]
                 rfl
                refine take_ (i:=1) (N:=some 52) (v:=?_) (a':=?_) #[true,true,true,false,false,false,false,false,false,false,false,false,false,false,false,false,false,false,false,false,false,false,false,false,false,false,false,false] rfl rfl (take_ofW HT_.out HW_.out (by kernel_rfl)) (fun _ _ _ h=>h) (Or.inl ⟨by rfl,?_⟩) hHeld ?_ ?_
                rotate_left
                ·rintro w' ⟨s0,s1,s2,s3,s4,s5,s6,s7,s8,s9,s10,s11,s12⟩
                 go_simp
                 with_reducible rfl
                rotate_left
                ·simp only [Act.put,List.setIfInBounds_toArray,List.set_cons_zero,List.set_cons_succ,i64_w,i32_w]
                 rfl
                refine pure_ (i:=3) (N:=some 54) (v:=?_) (a':=?_) #[true,true,true,true,false,false,false,false,false,false,false,false,false,false,false,false,false,false,false,false,false,false,false,false,false,false,false,false] rfl rfl (any_of HT_.out (by kernel_rfl)) (fun _ _ _ h=>h) (Or.inl ⟨by rfl,?_⟩) ?_ ?_
                rotate_left
                ·intro w'
                 go_simp
                 with_reducible rfl
                rotate_left
                ·simp only [Act.put,List.setIfInBounds_toArray,List.set_cons_zero,List.set_cons_succ,i64_w,i32_w]
                 rfl
                refine pure_ (i:=4) (N:=some 55) (v:=?_) (a':=?_) #[true,true,true,true,true,false,false,false,false,false,false,false,false,false,false,false,false,false,false,false,false,false,false,false,false,false,false,false] rfl rfl (any_of HT_.out (by kernel_rfl)) (fun _ _ _ h=>h) (Or.inl ⟨by rfl,?_⟩) ?_ ?_
                rotate_left
                ·intro w'
                 go_simp
                 with_reducible rfl
                rotate_left
                ·simp only [Act.put,List.setIfInBounds_toArray,List.set_cons_zero,List.set_cons_succ,i64_w,i32_w]
                 rfl
                refine take_ (i:=5) (N:=some 56) (v:=?_) (a':=?_) #[true,true,true,true,true,true,false,false,false,false,false,false,false,false,false,false,false,false,false,false,false,false,false,false,false,false,false,false] rfl rfl (take_ofW HT_.out HW_.out (by kernel_rfl)) (fun _ _ _ h=>h) (Or.inl ⟨by rfl,?_⟩) hHeld ?_ ?_
                rotate_left
                ·rintro w' ⟨s0,s1,s2,s3,s4,s5,s6,s7,s8,s9,s10,s11,s12⟩
                 go_simp
                 with_reducible rfl
                rotate_left
                ·simp only [Act.put,List.setIfInBounds_toArray,List.set_cons_zero,List.set_cons_succ,i64_w,i32_w]
                 rfl
                refine one_ (i:=6) (N:=some 57) #[true,true,true,true,true,true,true,false,false,false,false,false,false,false,false,false,false,false,false,false,false,false,false,false,false,false,false,false] rfl rfl (one_of HT_.out (by kernel_rfl)) (by decide) (fun K hK=>?_)
                refine goes_ Try.func52 (by kernel_rfl) rfl #[.int .i64 ((rd_T79 l0_4 x3_3).f1),.int .i64 0,.int .i64 10000] (by rfl) rfl rfl (by (try simp only [List.map_toArray,List.map_cons,List.map_nil]);first|done|rfl|(simp only [List.length_drop,List.length_take];rfl)) ?_
                with_reducible refine (spec_l12In.calls ((rd_T79 l0_4 x3_3).f1) 0 10000 true _ A25.out).mono ?_
                rintro e w' ⟨rfl,⟨nd,rfl⟩⟩
                refine ⟨_,rfl,?_⟩
                refine hK.out _ _ ⟨(blk_cell BK176.out 0).trans rfl,(blk_cell BK176.out 1).trans rfl,(blk_cell BK176.out 2).trans rfl,(blk_cell BK176.out 3).trans rfl,(blk_cell BK176.out 4).trans rfl,(blk_cell BK176.out 5).trans rfl,(blk_cell BK176.out 6).trans rfl,((HB.out.cell (World.block_lt_of_cell? w _ hw181_0)).trans hw181_0),((HB.out.cell (World.block_lt_of_cell? w _ hw181_1)).trans hw181_1),((HB.out.cell (World.block_lt_of_cell? w _ hw183_0)).trans hw183_0),((HB.out.cell (World.block_lt_of_cell? w _ hw183_1)).trans hw183_1),((HB.out.cell (World.block_lt_of_cell? w _ hw184_0)).trans hw184_0),((HB.out.cell (World.block_lt_of_cell? w _ hw184_1)).trans hw184_1)⟩ (fun hHeld=>?_)
                clear hK K
                refine norm_ (a':=?_) ?_ ?_
                rotate_left
                ·show Act.put _ (some 57) _=_
                 simp only [Act.put,List.setIfInBounds_toArray,List.set_cons_zero,List.set_cons_succ,i64_w,i32_w]
                 rfl
                refine pure_ (i:=7) (N:=some 58) (v:=?_) (a':=?_) #[true,true,true,true,true,true,true,true,false,false,false,false,false,false,false,false,false,false,false,false,false,false,false,false,false,false,false,false] rfl rfl (any_of HT_.out (by kernel_rfl)) (fun _ _ _ h=>h) (Or.inl ⟨by rfl,?_⟩) ?_ ?_
                rotate_left
                ·intro w'
                 go_simp
                 with_reducible rfl
                rotate_left
                ·simp only [Act.put,List.setIfInBounds_toArray,List.set_cons_zero,List.set_cons_succ,i64_w,i32_w]
                 rfl
                refine pure_ (i:=8) (N:=some 59) (v:=?_) (a':=?_) #[true,true,true,true,true,true,true,true,true,false,false,false,false,false,false,false,false,false,false,false,false,false,false,false,false,false,false,false] rfl rfl (any_of HT_.out (by kernel_rfl)) (fun _ _ _ h=>h) (Or.inl ⟨by rfl,?_⟩) ?_ ?_
                rotate_left
                ·intro w'
                 go_simp
                 with_reducible rfl
                rotate_left
                ·simp only [Act.put,List.setIfInBounds_toArray,List.set_cons_zero,List.set_cons_succ,i64_w,i32_w]
                 rfl
                refine pure_ (i:=9) (N:=some 60) (v:=?_) (a':=?_) #[true,true,true,true,true,true,true,true,true,true,false,false,false,false,false,false,false,false,false,false,false,false,false,false,false,false,false,false] rfl rfl (any_of HT_.out (by kernel_rfl)) (fun _ _ _ h=>h) (Or.inl ⟨by rfl,?_⟩) ?_ ?_
                rotate_left
                ·intro w'
                 go_simp
                 with_reducible rfl
                rotate_left
                ·simp only [Act.put,List.setIfInBounds_toArray,List.set_cons_zero,List.set_cons_succ,i64_w,i32_w]
                 rfl
                refine pure_ (i:=10) (N:=some 61) (v:=?_) (a':=?_) #[true,true,true,true,true,true,true,true,true,true,true,false,false,false,false,false,false,false,false,false,false,false,false,false,false,false,false,false] rfl rfl (any_of HT_.out (by kernel_rfl)) (fun _ _ _ h=>h) (Or.inl ⟨by rfl,?_⟩) ?_ ?_
                rotate_left
                ·intro w'
                 go_simp
                 with_reducible rfl
                rotate_left
                ·simp only [Act.put,List.setIfInBounds_toArray,List.set_cons_zero,List.set_cons_succ,i64_w,i32_w]
                 rfl
                refine pure_ (i:=11) (N:=some 62) (v:=?_) (a':=?_) #[true,true,true,true,true,true,true,true,true,true,true,true,false,false,false,false,false,false,false,false,false,false,false,false,false,false,false,false] rfl rfl (any_of HT_.out (by kernel_rfl)) (fun _ _ _ h=>h) (Or.inl ⟨by rfl,?_⟩) ?_ ?_
                rotate_left
                ·intro w'
                 go_simp
                 with_reducible rfl
                rotate_left
                ·simp only [Act.put,List.setIfInBounds_toArray,List.set_cons_zero,List.set_cons_succ,i64_w,i32_w]
                 rfl
                refine pure_ (i:=12) (N:=some 63) (v:=?_) (a':=?_) #[true,true,true,true,true,true,true,true,true,true,true,true,true,false,false,false,false,false,false,false,false,false,false,false,false,false,false,false] rfl rfl (any_of HT_.out (by kernel_rfl)) (fun _ _ _ h=>h) (Or.inl ⟨by rfl,?_⟩) ?_ ?_
                rotate_left
                ·intro w'
                 go_simp
                 with_reducible rfl
                rotate_left
                ·simp only [Act.put,List.setIfInBounds_toArray,List.set_cons_zero,List.set_cons_succ,i64_w,i32_w]
                 rfl
                refine pure_ (i:=14) (N:=some 65) (v:=?_) (a':=?_) #[true,true,true,true,true,true,true,true,true,true,true,true,true,false,true,false,false,false,false,false,false,false,false,false,false,false,false,false] rfl rfl (any_of HT_.out (by kernel_rfl)) (fun _ _ _ h=>h) (Or.inl ⟨by rfl,?_⟩) ?_ ?_
                rotate_left
                ·intro w'
                 go_simp
                 with_reducible rfl
                rotate_left
                ·simp only [Act.put,List.setIfInBounds_toArray,List.set_cons_zero,List.set_cons_succ,i64_w,i32_w]
                 rfl
                refine pure_ (i:=15) (N:=some 66) (v:=?_) (a':=?_) #[true,true,true,true,true,true,true,true,true,true,true,true,true,false,true,true,false,false,false,false,false,false,false,false,false,false,false,false] rfl rfl (any_of HT_.out (by kernel_rfl)) (fun _ _ _ h=>h) (Or.inl ⟨by rfl,?_⟩) ?_ ?_
                rotate_left
                ·intro w'
                 go_simp
                 with_reducible rfl
                rotate_left
                ·simp only [Act.put,List.setIfInBounds_toArray,List.set_cons_zero,List.set_cons_succ,i64_w,i32_w]
                 rfl
                refine pure_ (i:=19) (N:=some 70) (v:=?_) (a':=?_) #[true,true,true,true,true,true,true,true,true,true,true,true,true,false,true,true,false,false,false,true,false,false,false,false,false,false,false,false] rfl rfl (any_of HT_.out (by kernel_rfl)) (fun _ _ _ h=>h) (Or.inl ⟨by rfl,?_⟩) ?_ ?_
                rotate_left
                ·intro w'
                 go_simp
                 with_reducible rfl
                rotate_left
                ·simp only [Act.put,List.setIfInBounds_toArray,List.set_cons_zero,List.set_cons_succ,i64_w,i32_w]
                 rfl
                refine pure_ (i:=21) (N:=some 72) (v:=?_) (a':=?_) #[true,true,true,true,true,true,true,true,true,true,true,true,true,false,true,true,false,false,false,true,false,true,false,false,false,false,false,false] rfl rfl (any_of HT_.out (by kernel_rfl)) (fun _ _ _ h=>h) (Or.inl ⟨by rfl,?_⟩) ?_ ?_
                rotate_left
                ·intro w'
                 go_simp
                 with_reducible rfl
                rotate_left
                ·simp only [Act.put,List.setIfInBounds_toArray,List.set_cons_zero,List.set_cons_succ,i64_w,i32_w]
                 rfl
                refine take_ (i:=13) (N:=some 64) (v:=?_) (a':=?_) #[true,true,true,true,true,true,true,true,true,true,true,true,true,true,true,true,false,false,false,true,false,true,false,false,false,false,false,false] rfl rfl (take_ofW HT_.out HW_.out (by kernel_rfl)) (fun _ _ _ h=>h) (Or.inl ⟨by rfl,?_⟩) hHeld ?_ ?_
                rotate_left
                ·rintro w' ⟨s0,s1,s2,s3,s4,s5,s6,s7,s8,s9,s10,s11,s12⟩
                 go_simp
                 with_reducible rfl
                rotate_left
                ·simp only [Act.put,List.setIfInBounds_toArray,List.set_cons_zero,List.set_cons_succ,i64_w,i32_w]
                 rfl
                refine pure_ (i:=16) (N:=some 67) (v:=?_) (a':=?_) #[true,true,true,true,true,true,true,true,true,true,true,true,true,true,true,true,true,false,false,true,false,true,false,false,false,false,false,false] rfl rfl (any_of HT_.out (by kernel_rfl)) (fun _ _ _ h=>h) (Or.inl ⟨by rfl,?_⟩) ?_ ?_
                rotate_left
                ·intro w'
                 go_simp
                 with_reducible rfl
                rotate_left
                ·simp only [Act.put,List.setIfInBounds_toArray,List.set_cons_zero,List.set_cons_succ,i64_w,i32_w]
                 rfl
                refine pure_ (i:=17) (N:=some 68) (v:=?_) (a':=?_) #[true,true,true,true,true,true,true,true,true,true,true,true,true,true,true,true,true,true,false,true,false,true,false,false,false,false,false,false] rfl rfl (any_of HT_.out (by kernel_rfl)) (fun _ _ _ h=>h) (Or.inl ⟨by rfl,?_⟩) ?_ ?_
                rotate_left
                ·intro w'
                 go_simp
                 with_reducible rfl
                rotate_left
                ·simp only [Act.put,List.setIfInBounds_toArray,List.set_cons_zero,List.set_cons_succ,i64_w,i32_w]
                 rfl
                refine take_ (i:=18) (N:=some 69) (v:=?_) (a':=?_) #[true,true,true,true,true,true,true,true,true,true,true,true,true,true,true,true,true,true,true,true,false,true,false,false,false,false,false,false] rfl rfl (take_ofW HT_.out HW_.out (by kernel_rfl)) (fun _ _ _ h=>h) (Or.inl ⟨by rfl,?_⟩) hHeld ?_ ?_
                rotate_left
                ·rintro w' ⟨s0,s1,s2,s3,s4,s5,s6,s7,s8,s9,s10,s11,s12⟩
                 go_simp
                 with_reducible rfl
                rotate_left
                ·simp only [Act.put,List.setIfInBounds_toArray,List.set_cons_zero,List.set_cons_succ,i64_w,i32_w]
                 rfl
                refine take_ (i:=20) (N:=some 71) (v:=?_) (a':=?_) #[true,true,true,true,true,true,true,true,true,true,true,true,true,true,true,true,true,true,true,true,true,true,false,false,false,false,false,false] rfl rfl (take_ofW HT_.out HW_.out (by kernel_rfl)) (fun _ _ _ h=>h) (Or.inl ⟨by rfl,?_⟩) hHeld ?_ ?_
                rotate_left
                ·rintro w' ⟨s0,s1,s2,s3,s4,s5,s6,s7,s8,s9,s10,s11,s12⟩
                 go_simp
                 with_reducible rfl
                rotate_left
                ·simp only [Act.put,List.setIfInBounds_toArray,List.set_cons_zero,List.set_cons_succ,i64_w,i32_w]
                 rfl
                refine pure_ (i:=22) (N:=some 73) (v:=?_) (a':=?_) #[true,true,true,true,true,true,true,true,true,true,true,true,true,true,true,true,true,true,true,true,true,true,true,false,false,false,false,false] rfl rfl (any_of HT_.out (by kernel_rfl)) (fun _ _ _ h=>h) (Or.inl ⟨by rfl,?_⟩) ?_ ?_
                rotate_left
                ·intro w'
                 go_simp
                 with_reducible rfl
                rotate_left
                ·simp only [Act.put,List.setIfInBounds_toArray,List.set_cons_zero,List.set_cons_succ,i64_w,i32_w]
                 rfl
                refine pure_ (i:=23) (N:=some 74) (v:=?_) (a':=?_) #[true,true,true,true,true,true,true,true,true,true,true,true,true,true,true,true,true,true,true,true,true,true,true,true,false,false,false,false] rfl rfl (any_of HT_.out (by kernel_rfl)) (fun _ _ _ h=>h) (Or.inl ⟨by rfl,?_⟩) ?_ ?_
                rotate_left
                ·intro w'
                 go_simp
                 with_reducible rfl
                rotate_left
                ·simp only [Act.put,List.setIfInBounds_toArray,List.set_cons_zero,List.set_cons_succ,i64_w,i32_w]
                 rfl
                refine take_ (i:=24) (N:=some 75) (v:=?_) (a':=?_) #[true,true,true,true,true,true,true,true,true,true,true,true,true,true,true,true,true,true,true,true,true,true,true,true,true,false,false,false] rfl rfl (take_ofW HT_.out HW_.out (by kernel_rfl)) (fun _ _ _ h=>h) (Or.inl ⟨by rfl,?_⟩) hHeld ?_ ?_
                rotate_left
                ·rintro w' ⟨s0,s1,s2,s3,s4,s5,s6,s7,s8,s9,s10,s11,s12⟩
                 go_simp
                 with_reducible rfl
                rotate_left
                ·simp only [Act.put,List.setIfInBounds_toArray,List.set_cons_zero,List.set_cons_succ,i64_w,i32_w]
                 rfl
                refine pure_ (i:=25) (N:=some 76) (v:=?_) (a':=?_) #[true,true,true,true,true,true,true,true,true,true,true,true,true,true,true,true,true,true,true,true,true,true,true,true,true,true,false,false] rfl rfl (any_of HT_.out (by kernel_rfl)) (fun _ _ _ h=>h) (Or.inl ⟨by rfl,?_⟩) ?_ ?_
                rotate_left
                ·intro w'
                 go_simp
                 with_reducible rfl
                rotate_left
                ·simp only [Act.put,List.setIfInBounds_toArray,List.set_cons_zero,List.set_cons_succ,i64_w,i32_w]
                 rfl
                refine pure_ (i:=26) (N:=some 77) (v:=?_) (a':=?_) #[true,true,true,true,true,true,true,true,true,true,true,true,true,true,true,true,true,true,true,true,true,true,true,true,true,true,true,false] rfl rfl (any_of HT_.out (by kernel_rfl)) (fun _ _ _ h=>h) (Or.inl ⟨by rfl,?_⟩) ?_ ?_
                rotate_left
                ·intro w'
                 go_simp
                 with_reducible rfl
                rotate_left
                ·simp only [Act.put,List.setIfInBounds_toArray,List.set_cons_zero,List.set_cons_succ,i64_w,i32_w]
                 rfl
                refine pure_ (i:=27) (N:=some 78) (v:=?_) (a':=?_) #[true,true,true,true,true,true,true,true,true,true,true,true,true,true,true,true,true,true,true,true,true,true,true,true,true,true,true,true] rfl rfl (any_of HT_.out (by kernel_rfl)) (fun _ _ _ h=>h) (Or.inl ⟨by rfl,?_⟩) ?_ ?_
                rotate_left
                ·intro w'
                 go_simp
                 with_reducible rfl
                rotate_left
                ·simp only [Act.put,List.setIfInBounds_toArray,List.set_cons_zero,List.set_cons_succ,i64_w,i32_w]
                 rfl
                refine done_ (done_of HT_.out (by kernel_rfl)) ?_
                try go_wp2
                go_roundg k3
                case measure=>have:=HJ1.out;have:=HJ15.out;have:=HK3.out;omega
                case rel=>exact ⟨(wrap64 (x3_3+1)),(by first|rfl|(simp;done)|(simp [*];done)),H',⟨by have:=HJ1.out;have:=HJ15.out;have:=HK3.out;omega⟩,⟨by (with_reducible repeat (first|refine blk_drewN ?_ _|refine blk_drew ?_|refine blk_alloc ?_ _));exact BK176.out⟩,⟨by repeat (first|exact HB.out|apply below_alloc|apply pw_below_drewN|apply below_drew1|refine below_set ?_ GE176.out)⟩⟩
              ·rw [if_neg c30] at H
               exact absurd H (by simp)
             ·rw [if_neg c29] at H
              exact absurd H (by simp)
            ·rw [if_neg c27] at H
             have c27b0:decide (0<x3_3)=false:=decide_eq_false c27
             clear c27
             have H':=Aside0.mk H
             clear H
             obtain ⟨hcz36_0,hcz36_1,hcz36_2,hcz36_3,hcz36_4,hcz36_5,hcz36_6,hfz36_0,hfz36_1,hfz36_2,hfz36_3,hfz36_4,hfz36_5,hfz36_6⟩:=blkf7 BK176.out
             try go_wp2
             have n0_:=Aside0.mk (blk_drew BK176.out)
             have n1_:=Aside0.mk (below_drew1 HB.out)
             clear BK176
             clear HB
             have BK176:=n0_
             have HB:=n1_
             clear n0_ n1_
             have p181:0≤(x3_3:Int):=of_decide_eq_true (by first|(with_reducible assumption)|assumption)
             have q181:x3_3<(l0_4.length:Int):=of_decide_eq_true (by first|(with_reducible assumption)|assumption)
             obtain ⟨ad181,e181,hx181_0,hx181_1⟩:=at_T79 HR0_4.out x3_3 p181 q181
             have hw181_1:=hx181_1
             have hw181_0:=hx181_0
             cases e181
             replace hx181_0:=pw_cell_below HB.out hx181_0
             replace hx181_1:=pw_cell_below HB.out hx181_1
             replace p181:=eq_true p181
             replace q181:=eq_true q181
             refine start_ (n:=28) (S:=fun w'=>w'.cell? ⟨gb176,0,none⟩=some (.int .i64 a0_0)∧w'.cell? ⟨gb176,1,none⟩=some (.int .i64 a0_1)∧w'.cell? ⟨gb176,2,none⟩=some (.int .i64 a0_2)∧w'.cell? ⟨gb176,3,none⟩=some (.int .i64 a0_3)∧w'.cell? ⟨gb176,4,none⟩=some (.slice (some ad181) l0_4.length c0_4)∧w'.cell? ⟨gb176,5,none⟩=some (.slice A0_5 l0_5.length c0_5)∧w'.cell? ⟨gb176,6,none⟩=some (.slice A0_6 l0_6.length c0_6)∧w'.cell? (ad181.add ((x3_3).toNat*2))=some (.int .i64 ((rd_T79 l0_4 x3_3).f0))∧w'.cell? ⟨(ad181.add ((x3_3).toNat*2)).block,(ad181.add ((x3_3).toNat*2)).off+1,none⟩=some (.int .i64 ((rd_T79 l0_4 x3_3).f1))) (ds:=[]) #[false,false,false,false,false,false,false,false,false,false,false,false,false,false,false,false,false,false,false,false,false,false,false,false,false,false,false,false] (by kernel_rfl) rfl rfl ⟨(blk_cell BK176.out 0).trans rfl,(blk_cell BK176.out 1).trans rfl,(blk_cell BK176.out 2).trans rfl,(blk_cell BK176.out 3).trans rfl,(blk_cell BK176.out 4).trans rfl,(blk_cell BK176.out 5).trans rfl,(blk_cell BK176.out 6).trans rfl,((HB.out.cell (World.block_lt_of_cell? w _ hw181_0)).trans hw181_0),((HB.out.cell (World.block_lt_of_cell? w _ hw181_1)).trans hw181_1)⟩ (fun hHeld=>?_);refine with_tabW spec_FontOk.tab8 spec_FontOk.bits8 (fun HT_ HW_=>?_)
             generalize wr.drew=w37 at BK176 HB hx181_0 hx181_1 hHeld ⊢
             refine pure_ (i:=0) (N:=some 51) (v:=?_) (a':=?_) #[true,false,false,false,false,false,false,false,false,false,false,false,false,false,false,false,false,false,false,false,false,false,false,false,false,false,false,false] rfl rfl (any_of HT_.out (by kernel_rfl)) (fun _ _ _ h=>h) (Or.inl ⟨by rfl,?_⟩) ?_ ?_
             rotate_left
             ·intro w'
              go_simp
              with_reducible rfl
             rotate_left
             ·simp only [Act.put,List.setIfInBounds_toArray,List.set_cons_zero,List.set_cons_succ,i64_w,i32_w]
              rfl
             refine pure_ (i:=2) (N:=some 53) (v:=?_) (a':=?_) #[true,false,true,false,false,false,false,false,false,false,false,false,false,false,false,false,false,false,false,false,false,false,false,false,false,false,false,false] rfl rfl (any_of HT_.out (by kernel_rfl)) (fun _ _ _ h=>h) (Or.inl ⟨by rfl,?_⟩) ?_ ?_
             rotate_left
             ·intro w'
              go_simp
              with_reducible rfl
             rotate_left
             ·simp only [Act.put,List.setIfInBounds_toArray,List.set_cons_zero,List.set_cons_succ,i64_w,i32_w]
              rfl
             refine take_ (i:=1) (N:=some 52) (v:=?_) (a':=?_) #[true,true,true,false,false,false,false,false,false,false,false,false,false,false,false,false,false,false,false,false,false,false,false,false,false,false,false,false] rfl rfl (take_ofW HT_.out HW_.out (by kernel_rfl)) (fun _ _ _ h=>h) (Or.inl ⟨by rfl,?_⟩) hHeld ?_ ?_
             rotate_left
             ·rintro w' ⟨s0,s1,s2,s3,s4,s5,s6,s7,s8⟩
              go_simp
              with_reducible rfl
             rotate_left
             ·simp only [Act.put,List.setIfInBounds_toArray,List.set_cons_zero,List.set_cons_succ,i64_w,i32_w]
              rfl
             refine pure_ (i:=3) (N:=some 54) (v:=?_) (a':=?_) #[true,true,true,true,false,false,false,false,false,false,false,false,false,false,false,false,false,false,false,false,false,false,false,false,false,false,false,false] rfl rfl (any_of HT_.out (by kernel_rfl)) (fun _ _ _ h=>h) (Or.inl ⟨by rfl,?_⟩) ?_ ?_
             rotate_left
             ·intro w'
              go_simp
              with_reducible rfl
             rotate_left
             ·simp only [Act.put,List.setIfInBounds_toArray,List.set_cons_zero,List.set_cons_succ,i64_w,i32_w]
              rfl
             refine pure_ (i:=4) (N:=some 55) (v:=?_) (a':=?_) #[true,true,true,true,true,false,false,false,false,false,false,false,false,false,false,false,false,false,false,false,false,false,false,false,false,false,false,false] rfl rfl (any_of HT_.out (by kernel_rfl)) (fun _ _ _ h=>h) (Or.inl ⟨by rfl,?_⟩) ?_ ?_
             rotate_left
             ·intro w'
              go_simp
              with_reducible rfl
             rotate_left
             ·simp only [Act.put,List.setIfInBounds_toArray,List.set_cons_zero,List.set_cons_succ,i64_w,i32_w]
              rfl
             refine take_ (i:=5) (N:=some 56) (v:=?_) (a':=?_) #[true,true,true,true,true,true,false,false,false,false,false,false,false,false,false,false,false,false,false,false,false,false,false,false,false,false,false,false] rfl rfl (take_ofW HT_.out HW_.out (by kernel_rfl)) (fun _ _ _ h=>h) (Or.inl ⟨by rfl,?_⟩) hHeld ?_ ?_
             rotate_left
             ·rintro w' ⟨s0,s1,s2,s3,s4,s5,s6,s7,s8⟩
              go_simp
              with_reducible rfl
             rotate_left
             ·simp only [Act.put,List.setIfInBounds_toArray,List.set_cons_zero,List.set_cons_succ,i64_w,i32_w]
              rfl
             refine one_ (i:=6) (N:=some 57) #[true,true,true,true,true,true,true,false,false,false,false,false,false,false,false,false,false,false,false,false,false,false,false,false,false,false,false,false] rfl rfl (one_of HT_.out (by kernel_rfl)) (by decide) (fun K hK=>?_)
             refine goes_ Try.func52 (by kernel_rfl) rfl #[.int .i64 ((rd_T79 l0_4 x3_3).f1),.int .i64 0,.int .i64 10000] (by rfl) rfl rfl (by (try simp only [List.map_toArray,List.map_cons,List.map_nil]);first|done|rfl|(simp only [List.length_drop,List.length_take];rfl)) ?_
             with_reducible refine (spec_l12In.calls ((rd_T79 l0_4 x3_3).f1) 0 10000 true _ A25.out).mono ?_
             rintro e w' ⟨rfl,⟨nd,rfl⟩⟩
             refine ⟨_,rfl,?_⟩
             refine hK.out _ _ ⟨(blk_cell BK176.out 0).trans rfl,(blk_cell BK176.out 1).trans rfl,(blk_cell BK176.out 2).trans rfl,(blk_cell BK176.out 3).trans rfl,(blk_cell BK176.out 4).trans rfl,(blk_cell BK176.out 5).trans rfl,(blk_cell BK176.out 6).trans rfl,((HB.out.cell (World.block_lt_of_cell? w _ hw181_0)).trans hw181_0),((HB.out.cell (World.block_lt_of_cell? w _ hw181_1)).trans hw181_1)⟩ (fun hHeld=>?_)
             clear hK K
             refine norm_ (a':=?_) ?_ ?_
             rotate_left
             ·show Act.put _ (some 57) _=_
              simp only [Act.put,List.setIfInBounds_toArray,List.set_cons_zero,List.set_cons_succ,i64_w,i32_w]
              rfl
             refine pure_ (i:=7) (N:=some 58) (v:=?_) (a':=?_) #[true,true,true,true,true,true,true,true,false,false,false,false,false,false,false,false,false,false,false,false,false,false,false,false,false,false,false,false] rfl rfl (any_of HT_.out (by kernel_rfl)) (fun _ _ _ h=>h) (Or.inl ⟨by rfl,?_⟩) ?_ ?_
             rotate_left
             ·intro w'
              go_simp
              with_reducible rfl
             rotate_left
             ·simp only [Act.put,List.setIfInBounds_toArray,List.set_cons_zero,List.set_cons_succ,i64_w,i32_w]
              rfl
             refine pure_ (i:=8) (N:=some 59) (v:=?_) (a':=?_) #[true,true,true,true,true,true,true,true,true,false,false,false,false,false,false,false,false,false,false,false,false,false,false,false,false,false,false,false] rfl rfl (any_of HT_.out (by kernel_rfl)) (fun _ _ _ h=>h) (Or.inl ⟨by rfl,?_⟩) ?_ ?_
             rotate_left
             ·intro w'
              go_simp
              with_reducible rfl
             rotate_left
             ·simp only [Act.put,List.setIfInBounds_toArray,List.set_cons_zero,List.set_cons_succ,i64_w,i32_w]
              rfl
             refine pure_ (i:=9) (N:=some 60) (v:=?_) (a':=?_) #[true,true,true,true,true,true,true,true,true,true,false,false,false,false,false,false,false,false,false,false,false,false,false,false,false,false,false,false] rfl rfl (any_of HT_.out (by kernel_rfl)) (fun _ _ _ h=>h) (Or.inl ⟨by rfl,?_⟩) ?_ ?_
             rotate_left
             ·intro w'
              go_simp
              with_reducible rfl
             rotate_left
             ·simp only [Act.put,List.setIfInBounds_toArray,List.set_cons_zero,List.set_cons_succ,i64_w,i32_w]
              rfl
             refine pure_ (i:=10) (N:=some 61) (v:=?_) (a':=?_) #[true,true,true,true,true,true,true,true,true,true,true,false,false,false,false,false,false,false,false,false,false,false,false,false,false,false,false,false] rfl rfl (any_of HT_.out (by kernel_rfl)) (fun _ _ _ h=>h) (Or.inl ⟨by rfl,?_⟩) ?_ ?_
             rotate_left
             ·intro w'
              go_simp
              with_reducible rfl
             rotate_left
             ·simp only [Act.put,List.setIfInBounds_toArray,List.set_cons_zero,List.set_cons_succ,i64_w,i32_w]
              rfl
             refine pure_ (i:=11) (N:=some 62) (v:=?_) (a':=?_) #[true,true,true,true,true,true,true,true,true,true,true,true,false,false,false,false,false,false,false,false,false,false,false,false,false,false,false,false] rfl rfl (any_of HT_.out (by kernel_rfl)) (fun _ _ _ h=>h) (Or.inl ⟨by rfl,?_⟩) ?_ ?_
             rotate_left
             ·intro w'
              go_simp
              with_reducible rfl
             rotate_left
             ·simp only [Act.put,List.setIfInBounds_toArray,List.set_cons_zero,List.set_cons_succ,i64_w,i32_w]
              rfl
             refine pure_ (i:=12) (N:=some 63) (v:=undef) (a':=?_) #[true,true,true,true,true,true,true,true,true,true,true,true,true,false,false,false,false,false,false,false,false,false,false,false,false,false,false,false] rfl rfl (any_of HT_.out (by kernel_rfl)) (fun _ _ _ h=>h) (Or.inr ⟨by rfl,rfl⟩) ?_ ?_
             rotate_left
             ·simp only [Act.put,List.setIfInBounds_toArray,List.set_cons_zero,List.set_cons_succ,i64_w,i32_w]
              rfl
             refine pure_ (i:=13) (N:=some 64) (v:=undef) (a':=?_) #[true,true,true,true,true,true,true,true,true,true,true,true,true,true,false,false,false,false,false,false,false,false,false,false,false,false,false,false] rfl rfl (any_of HT_.out (by kernel_rfl)) (fun _ _ _ h=>h) (Or.inr ⟨by rfl,rfl⟩) ?_ ?_
             rotate_left
             ·simp only [Act.put,List.setIfInBounds_toArray,List.set_cons_zero,List.set_cons_succ,i64_w,i32_w]
              rfl
             refine pure_ (i:=14) (N:=some 65) (v:=undef) (a':=?_) #[true,true,true,true,true,true,true,true,true,true,true,true,true,true,true,false,false,false,false,false,false,false,false,false,false,false,false,false] rfl rfl (any_of HT_.out (by kernel_rfl)) (fun _ _ _ h=>h) (Or.inr ⟨by rfl,rfl⟩) ?_ ?_
             rotate_left
             ·simp only [Act.put,List.setIfInBounds_toArray,List.set_cons_zero,List.set_cons_succ,i64_w,i32_w]
              rfl
             refine pure_ (i:=15) (N:=some 66) (v:=undef) (a':=?_) #[true,true,true,true,true,true,true,true,true,true,true,true,true,true,true,true,false,false,false,false,false,false,false,false,false,false,false,false] rfl rfl (any_of HT_.out (by kernel_rfl)) (fun _ _ _ h=>h) (Or.inr ⟨by rfl,rfl⟩) ?_ ?_
             rotate_left
             ·simp only [Act.put,List.setIfInBounds_toArray,List.set_cons_zero,List.set_cons_succ,i64_w,i32_w]
              rfl
             refine pure_ (i:=16) (N:=some 67) (v:=undef) (a':=?_) #[true,true,true,true,true,true,true,true,true,true,true,true,true,true,true,true,true,false,false,false,false,false,false,false,false,false,false,false] rfl rfl (any_of HT_.out (by kernel_rfl)) (fun _ _ _ h=>h) (Or.inr ⟨by rfl,rfl⟩) ?_ ?_
             rotate_left
             ·simp only [Act.put,List.setIfInBounds_toArray,List.set_cons_zero,List.set_cons_succ,i64_w,i32_w]
              rfl
             refine pure_ (i:=17) (N:=some 68) (v:=undef) (a':=?_) #[true,true,true,true,true,true,true,true,true,true,true,true,true,true,true,true,true,true,false,false,false,false,false,false,false,false,false,false] rfl rfl (any_of HT_.out (by kernel_rfl)) (fun _ _ _ h=>h) (Or.inr ⟨by rfl,rfl⟩) ?_ ?_
             rotate_left
             ·simp only [Act.put,List.setIfInBounds_toArray,List.set_cons_zero,List.set_cons_succ,i64_w,i32_w]
              rfl
             refine pure_ (i:=18) (N:=some 69) (v:=undef) (a':=?_) #[true,true,true,true,true,true,true,true,true,true,true,true,true,true,true,true,true,true,true,false,false,false,false,false,false,false,false,false] rfl rfl (any_of HT_.out (by kernel_rfl)) (fun _ _ _ h=>h) (Or.inr ⟨by rfl,rfl⟩) ?_ ?_
             rotate_left
             ·simp only [Act.put,List.setIfInBounds_toArray,List.set_cons_zero,List.set_cons_succ,i64_w,i32_w]
              rfl
             refine pure_ (i:=19) (N:=some 70) (v:=undef) (a':=?_) #[true,true,true,true,true,true,true,true,true,true,true,true,true,true,true,true,true,true,true,true,false,false,false,false,false,false,false,false] rfl rfl (any_of HT_.out (by kernel_rfl)) (fun _ _ _ h=>h) (Or.inr ⟨by rfl,rfl⟩) ?_ ?_
             rotate_left
             ·simp only [Act.put,List.setIfInBounds_toArray,List.set_cons_zero,List.set_cons_succ,i64_w,i32_w]
              rfl
             refine pure_ (i:=20) (N:=some 71) (v:=undef) (a':=?_) #[true,true,true,true,true,true,true,true,true,true,true,true,true,true,true,true,true,true,true,true,true,false,false,false,false,false,false,false] rfl rfl (any_of HT_.out (by kernel_rfl)) (fun _ _ _ h=>h) (Or.inr ⟨by rfl,rfl⟩) ?_ ?_
             rotate_left
             ·simp only [Act.put,List.setIfInBounds_toArray,List.set_cons_zero,List.set_cons_succ,i64_w,i32_w]
              rfl
             refine pure_ (i:=21) (N:=some 72) (v:=undef) (a':=?_) #[true,true,true,true,true,true,true,true,true,true,true,true,true,true,true,true,true,true,true,true,true,true,false,false,false,false,false,false] rfl rfl (any_of HT_.out (by kernel_rfl)) (fun _ _ _ h=>h) (Or.inr ⟨by rfl,rfl⟩) ?_ ?_
             rotate_left
             ·simp only [Act.put,List.setIfInBounds_toArray,List.set_cons_zero,List.set_cons_succ,i64_w,i32_w]
              rfl
             refine pure_ (i:=22) (N:=some 73) (v:=undef) (a':=?_) #[true,true,true,true,true,true,true,true,true,true,true,true,true,true,true,true,true,true,true,true,true,true,true,false,false,false,false,false] rfl rfl (any_of HT_.out (by kernel_rfl)) (fun _ _ _ h=>h) (Or.inr ⟨by rfl,rfl⟩) ?_ ?_
             rotate_left
             ·simp only [Act.put,List.setIfInBounds_toArray,List.set_cons_zero,List.set_cons_succ,i64_w,i32_w]
              rfl
             refine pure_ (i:=23) (N:=some 74) (v:=undef) (a':=?_) #[true,true,true,true,true,true,true,true,true,true,true,true,true,true,true,true,true,true,true,true,true,true,true,true,false,false,false,false] rfl rfl (any_of HT_.out (by kernel_rfl)) (fun _ _ _ h=>h) (Or.inr ⟨by rfl,rfl⟩) ?_ ?_
             rotate_left
             ·simp only [Act.put,List.setIfInBounds_toArray,List.set_cons_zero,List.set_cons_succ,i64_w,i32_w]
              rfl
             refine pure_ (i:=24) (N:=some 75) (v:=undef) (a':=?_) #[true,true,true,true,true,true,true,true,true,true,true,true,true,true,true,true,true,true,true,true,true,true,true,true,true,false,false,false] rfl rfl (any_of HT_.out (by kernel_rfl)) (fun _ _ _ h=>h) (Or.inr ⟨by rfl,rfl⟩) ?_ ?_
             rotate_left
             ·simp only [Act.put,List.setIfInBounds_toArray,List.set_cons_zero,List.set_cons_succ,i64_w,i32_w]
              rfl
             refine pure_ (i:=25) (N:=some 76) (v:=undef) (a':=?_) #[true,true,true,true,true,true,true,true,true,true,true,true,true,true,true,true,true,true,true,true,true,true,true,true,true,true,false,false] rfl rfl (any_of HT_.out (by kernel_rfl)) (fun _ _ _ h=>h) (Or.inr ⟨by rfl,rfl⟩) ?_ ?_
             rotate_left
             ·simp only [Act.put,List.setIfInBounds_toArray,List.set_cons_zero,List.set_cons_succ,i64_w,i32_w]
              rfl
             refine pure_ (i:=26) (N:=some 77) (v:=?_) (a':=?_) #[true,true,true,true,true,true,true,true,true,true,true,true,true,true,true,true,true,true,true,true,true,true,true,true,true,true,true,false] rfl rfl (any_of HT_.out (by kernel_rfl)) (fun _ _ _ h=>h) (Or.inl ⟨by rfl,?_⟩) ?_ ?_
             rotate_left
             ·intro w'
              go_simp
              with_reducible rfl
             rotate_left
             ·simp only [Act.put,List.setIfInBounds_toArray,List.set_cons_zero,List.set_cons_succ,i64_w,i32_w]
              rfl
             refine pure_ (i:=27) (N:=some 78) (v:=?_) (a':=?_) #[true,true,true,true,true,true,true,true,true,true,true,true,true,true,true,true,true,true,true,true,true,true,true,true,true,true,true,true] rfl rfl (any_of HT_.out (by kernel_rfl)) (fun _ _ _ h=>h) (Or.inl ⟨by rfl,?_⟩) ?_ ?_
             rotate_left
             ·intro w'
              go_simp
              with_reducible rfl
             rotate_left
             ·simp only [Act.put,List.setIfInBounds_toArray,List.set_cons_zero,List.set_cons_succ,i64_w,i32_w]
              rfl
             refine done_ (done_of HT_.out (by kernel_rfl)) ?_
             try go_wp2
             go_roundg k3
             case measure=>have:=HJ1.out;have:=HJ15.out;have:=HK3.out;omega
             case rel=>exact ⟨(wrap64 (x3_3+1)),(by first|rfl|(simp;done)|(simp [*];done)),H',⟨by have:=HJ1.out;have:=HJ15.out;have:=HK3.out;omega⟩,⟨by (with_reducible repeat (first|refine blk_drewN ?_ _|refine blk_drew ?_|refine blk_alloc ?_ _));exact BK176.out⟩,⟨by repeat (first|exact HB.out|apply below_alloc|apply pw_below_drewN|apply below_drew1|refine below_set ?_ GE176.out)⟩⟩
           ·replace c26:=Bool.eq_false_iff.mpr c26
            subst c26
            have H1:(some false)=some r:=by rw [if_neg (show ¬ (false=true) by decide)] at H;exact H
            clear H
            have H:=H1
            clear H1
            obtain rfl:=Option.some.inj H
            obtain ⟨hcz38_0,hcz38_1,hcz38_2,hcz38_3,hcz38_4,hcz38_5,hcz38_6,hfz38_0,hfz38_1,hfz38_2,hfz38_3,hfz38_4,hfz38_5,hfz38_6⟩:=blkf7 BK176.out
            try go_wp2
            have n0_:=Aside0.mk (blk_drew BK176.out)
            have n1_:=Aside0.mk (below_drew1 HB.out)
            clear BK176
            clear HB
            have BK176:=n0_
            have HB:=n1_
            clear n0_ n1_
            have p181:0≤(x3_3:Int):=of_decide_eq_true (by first|(with_reducible assumption)|assumption)
            have q181:x3_3<(l0_4.length:Int):=of_decide_eq_true (by first|(with_reducible assumption)|assumption)
            obtain ⟨ad181,e181,hx181_0,hx181_1⟩:=at_T79 HR0_4.out x3_3 p181 q181
            have hw181_1:=hx181_1
            have hw181_0:=hx181_0
            cases e181
            replace hx181_0:=pw_cell_below HB.out hx181_0
            replace hx181_1:=pw_cell_below HB.out hx181_1
            replace p181:=eq_true p181
            replace q181:=eq_true q181
            refine start_ (n:=28) (S:=fun w'=>w'.cell? ⟨gb176,0,none⟩=some (.int .i64 a0_0)∧w'.cell? ⟨gb176,1,none⟩=some (.int .i64 a0_1)∧w'.cell? ⟨gb176,2,none⟩=some (.int .i64 a0_2)∧w'.cell? ⟨gb176,3,none⟩=some (.int .i64 a0_3)∧w'.cell? ⟨gb176,4,none⟩=some (.slice (some ad181) l0_4.length c0_4)∧w'.cell? ⟨gb176,5,none⟩=some (.slice A0_5 l0_5.length c0_5)∧w'.cell? ⟨gb176,6,none⟩=some (.slice A0_6 l0_6.length c0_6)∧w'.cell? (ad181.add ((x3_3).toNat*2))=some (.int .i64 ((rd_T79 l0_4 x3_3).f0))∧w'.cell? ⟨(ad181.add ((x3_3).toNat*2)).block,(ad181.add ((x3_3).toNat*2)).off+1,none⟩=some (.int .i64 ((rd_T79 l0_4 x3_3).f1))) (ds:=[]) #[false,false,false,false,false,false,false,false,false,false,false,false,false,false,false,false,false,false,false,false,false,false,false,false,false,false,false,false] (by kernel_rfl) rfl rfl ⟨(blk_cell BK176.out 0).trans rfl,(blk_cell BK176.out 1).trans rfl,(blk_cell BK176.out 2).trans rfl,(blk_cell BK176.out 3).trans rfl,(blk_cell BK176.out 4).trans rfl,(blk_cell BK176.out 5).trans rfl,(blk_cell BK176.out 6).trans rfl,((HB.out.cell (World.block_lt_of_cell? w _ hw181_0)).trans hw181_0),((HB.out.cell (World.block_lt_of_cell? w _ hw181_1)).trans hw181_1)⟩ (fun hHeld=>?_);refine with_tabW spec_FontOk.tab8 spec_FontOk.bits8 (fun HT_ HW_=>?_)
            generalize wr.drew=w39 at BK176 HB hx181_0 hx181_1 hHeld ⊢
            refine pure_ (i:=0) (N:=some 51) (v:=?_) (a':=?_) #[true,false,false,false,false,false,false,false,false,false,false,false,false,false,false,false,false,false,false,false,false,false,false,false,false,false,false,false] rfl rfl (any_of HT_.out (by kernel_rfl)) (fun _ _ _ h=>h) (Or.inl ⟨by rfl,?_⟩) ?_ ?_
            rotate_left
            ·intro w'
             go_simp
             with_reducible rfl
            rotate_left
            ·simp only [Act.put,List.setIfInBounds_toArray,List.set_cons_zero,List.set_cons_succ,i64_w,i32_w]
             rfl
            refine pure_ (i:=2) (N:=some 53) (v:=?_) (a':=?_) #[true,false,true,false,false,false,false,false,false,false,false,false,false,false,false,false,false,false,false,false,false,false,false,false,false,false,false,false] rfl rfl (any_of HT_.out (by kernel_rfl)) (fun _ _ _ h=>h) (Or.inl ⟨by rfl,?_⟩) ?_ ?_
            rotate_left
            ·intro w'
             go_simp
             with_reducible rfl
            rotate_left
            ·simp only [Act.put,List.setIfInBounds_toArray,List.set_cons_zero,List.set_cons_succ,i64_w,i32_w]
             rfl
            refine take_ (i:=1) (N:=some 52) (v:=?_) (a':=?_) #[true,true,true,false,false,false,false,false,false,false,false,false,false,false,false,false,false,false,false,false,false,false,false,false,false,false,false,false] rfl rfl (take_ofW HT_.out HW_.out (by kernel_rfl)) (fun _ _ _ h=>h) (Or.inl ⟨by rfl,?_⟩) hHeld ?_ ?_
            rotate_left
            ·rintro w' ⟨s0,s1,s2,s3,s4,s5,s6,s7,s8⟩
             go_simp
             with_reducible rfl
            rotate_left
            ·simp only [Act.put,List.setIfInBounds_toArray,List.set_cons_zero,List.set_cons_succ,i64_w,i32_w]
             rfl
            refine pure_ (i:=3) (N:=some 54) (v:=?_) (a':=?_) #[true,true,true,true,false,false,false,false,false,false,false,false,false,false,false,false,false,false,false,false,false,false,false,false,false,false,false,false] rfl rfl (any_of HT_.out (by kernel_rfl)) (fun _ _ _ h=>h) (Or.inl ⟨by rfl,?_⟩) ?_ ?_
            rotate_left
            ·intro w'
             go_simp
             with_reducible rfl
            rotate_left
            ·simp only [Act.put,List.setIfInBounds_toArray,List.set_cons_zero,List.set_cons_succ,i64_w,i32_w]
             rfl
            refine pure_ (i:=4) (N:=some 55) (v:=?_) (a':=?_) #[true,true,true,true,true,false,false,false,false,false,false,false,false,false,false,false,false,false,false,false,false,false,false,false,false,false,false,false] rfl rfl (any_of HT_.out (by kernel_rfl)) (fun _ _ _ h=>h) (Or.inl ⟨by rfl,?_⟩) ?_ ?_
            rotate_left
            ·intro w'
             go_simp
             with_reducible rfl
            rotate_left
            ·simp only [Act.put,List.setIfInBounds_toArray,List.set_cons_zero,List.set_cons_succ,i64_w,i32_w]
             rfl
            refine take_ (i:=5) (N:=some 56) (v:=?_) (a':=?_) #[true,true,true,true,true,true,false,false,false,false,false,false,false,false,false,false,false,false,false,false,false,false,false,false,false,false,false,false] rfl rfl (take_ofW HT_.out HW_.out (by kernel_rfl)) (fun _ _ _ h=>h) (Or.inl ⟨by rfl,?_⟩) hHeld ?_ ?_
            rotate_left
            ·rintro w' ⟨s0,s1,s2,s3,s4,s5,s6,s7,s8⟩
             go_simp
             with_reducible rfl
            rotate_left
            ·simp only [Act.put,List.setIfInBounds_toArray,List.set_cons_zero,List.set_cons_succ,i64_w,i32_w]
             rfl
            refine one_ (i:=6) (N:=some 57) #[true,true,true,true,true,true,true,false,false,false,false,false,false,false,false,false,false,false,false,false,false,false,false,false,false,false,false,false] rfl rfl (one_of HT_.out (by kernel_rfl)) (by decide) (fun K hK=>?_)
            refine goes_ Try.func52 (by kernel_rfl) rfl #[.int .i64 ((rd_T79 l0_4 x3_3).f1),.int .i64 0,.int .i64 10000] (by rfl) rfl rfl (by (try simp only [List.map_toArray,List.map_cons,List.map_nil]);first|done|rfl|(simp only [List.length_drop,List.length_take];rfl)) ?_
            with_reducible refine (spec_l12In.calls ((rd_T79 l0_4 x3_3).f1) 0 10000 false _ A25.out).mono ?_
            rintro e w' ⟨rfl,⟨nd,rfl⟩⟩
            refine ⟨_,rfl,?_⟩
            refine hK.out _ _ ⟨(blk_cell BK176.out 0).trans rfl,(blk_cell BK176.out 1).trans rfl,(blk_cell BK176.out 2).trans rfl,(blk_cell BK176.out 3).trans rfl,(blk_cell BK176.out 4).trans rfl,(blk_cell BK176.out 5).trans rfl,(blk_cell BK176.out 6).trans rfl,((HB.out.cell (World.block_lt_of_cell? w _ hw181_0)).trans hw181_0),((HB.out.cell (World.block_lt_of_cell? w _ hw181_1)).trans hw181_1)⟩ (fun hHeld=>?_)
            clear hK K
            refine norm_ (a':=?_) ?_ ?_
            rotate_left
            ·show Act.put _ (some 57) _=_
             simp only [Act.put,List.setIfInBounds_toArray,List.set_cons_zero,List.set_cons_succ,i64_w,i32_w]
             rfl
            refine pure_ (i:=7) (N:=some 58) (v:=?_) (a':=?_) #[true,true,true,true,true,true,true,true,false,false,false,false,false,false,false,false,false,false,false,false,false,false,false,false,false,false,false,false] rfl rfl (any_of HT_.out (by kernel_rfl)) (fun _ _ _ h=>h) (Or.inl ⟨by rfl,?_⟩) ?_ ?_
            rotate_left
            ·intro w'
             go_simp
             with_reducible rfl
            rotate_left
            ·simp only [Act.put,List.setIfInBounds_toArray,List.set_cons_zero,List.set_cons_succ,i64_w,i32_w]
             rfl
            refine pure_ (i:=8) (N:=some 59) (v:=?_) (a':=?_) #[true,true,true,true,true,true,true,true,true,false,false,false,false,false,false,false,false,false,false,false,false,false,false,false,false,false,false,false] rfl rfl (any_of HT_.out (by kernel_rfl)) (fun _ _ _ h=>h) (Or.inl ⟨by rfl,?_⟩) ?_ ?_
            rotate_left
            ·intro w'
             go_simp
             with_reducible rfl
            rotate_left
            ·simp only [Act.put,List.setIfInBounds_toArray,List.set_cons_zero,List.set_cons_succ,i64_w,i32_w]
             rfl
            refine pure_ (i:=9) (N:=some 60) (v:=undef) (a':=?_) #[true,true,true,true,true,true,true,true,true,true,false,false,false,false,false,false,false,false,false,false,false,false,false,false,false,false,false,false] rfl rfl (any_of HT_.out (by kernel_rfl)) (fun _ _ _ h=>h) (Or.inr ⟨by rfl,rfl⟩) ?_ ?_
            rotate_left
            ·simp only [Act.put,List.setIfInBounds_toArray,List.set_cons_zero,List.set_cons_succ,i64_w,i32_w]
             rfl
            refine pure_ (i:=10) (N:=some 61) (v:=undef) (a':=?_) #[true,true,true,true,true,true,true,true,true,true,true,false,false,false,false,false,false,false,false,false,false,false,false,false,false,false,false,false] rfl rfl (any_of HT_.out (by kernel_rfl)) (fun _ _ _ h=>h) (Or.inr ⟨by rfl,rfl⟩) ?_ ?_
            rotate_left
            ·simp only [Act.put,List.setIfInBounds_toArray,List.set_cons_zero,List.set_cons_succ,i64_w,i32_w]
             rfl
            refine pure_ (i:=11) (N:=some 62) (v:=undef) (a':=?_) #[true,true,true,true,true,true,true,true,true,true,true,true,false,false,false,false,false,false,false,false,false,false,false,false,false,false,false,false] rfl rfl (any_of HT_.out (by kernel_rfl)) (fun _ _ _ h=>h) (Or.inr ⟨by rfl,rfl⟩) ?_ ?_
            rotate_left
            ·simp only [Act.put,List.setIfInBounds_toArray,List.set_cons_zero,List.set_cons_succ,i64_w,i32_w]
             rfl
            refine pure_ (i:=12) (N:=some 63) (v:=undef) (a':=?_) #[true,true,true,true,true,true,true,true,true,true,true,true,true,false,false,false,false,false,false,false,false,false,false,false,false,false,false,false] rfl rfl (any_of HT_.out (by kernel_rfl)) (fun _ _ _ h=>h) (Or.inr ⟨by rfl,rfl⟩) ?_ ?_
            rotate_left
            ·simp only [Act.put,List.setIfInBounds_toArray,List.set_cons_zero,List.set_cons_succ,i64_w,i32_w]
             rfl
            refine pure_ (i:=13) (N:=some 64) (v:=undef) (a':=?_) #[true,true,true,true,true,true,true,true,true,true,true,true,true,true,false,false,false,false,false,false,false,false,false,false,false,false,false,false] rfl rfl (any_of HT_.out (by kernel_rfl)) (fun _ _ _ h=>h) (Or.inr ⟨by rfl,rfl⟩) ?_ ?_
            rotate_left
            ·simp only [Act.put,List.setIfInBounds_toArray,List.set_cons_zero,List.set_cons_succ,i64_w,i32_w]
             rfl
            refine pure_ (i:=14) (N:=some 65) (v:=undef) (a':=?_) #[true,true,true,true,true,true,true,true,true,true,true,true,true,true,true,false,false,false,false,false,false,false,false,false,false,false,false,false] rfl rfl (any_of HT_.out (by kernel_rfl)) (fun _ _ _ h=>h) (Or.inr ⟨by rfl,rfl⟩) ?_ ?_
            rotate_left
            ·simp only [Act.put,List.setIfInBounds_toArray,List.set_cons_zero,List.set_cons_succ,i64_w,i32_w]
             rfl
            refine pure_ (i:=15) (N:=some 66) (v:=undef) (a':=?_) #[true,true,true,true,true,true,true,true,true,true,true,true,true,true,true,true,false,false,false,false,false,false,false,false,false,false,false,false] rfl rfl (any_of HT_.out (by kernel_rfl)) (fun _ _ _ h=>h) (Or.inr ⟨by rfl,rfl⟩) ?_ ?_
            rotate_left
            ·simp only [Act.put,List.setIfInBounds_toArray,List.set_cons_zero,List.set_cons_succ,i64_w,i32_w]
             rfl
            refine pure_ (i:=16) (N:=some 67) (v:=undef) (a':=?_) #[true,true,true,true,true,true,true,true,true,true,true,true,true,true,true,true,true,false,false,false,false,false,false,false,false,false,false,false] rfl rfl (any_of HT_.out (by kernel_rfl)) (fun _ _ _ h=>h) (Or.inr ⟨by rfl,rfl⟩) ?_ ?_
            rotate_left
            ·simp only [Act.put,List.setIfInBounds_toArray,List.set_cons_zero,List.set_cons_succ,i64_w,i32_w]
             rfl
            refine pure_ (i:=17) (N:=some 68) (v:=undef) (a':=?_) #[true,true,true,true,true,true,true,true,true,true,true,true,true,true,true,true,true,true,false,false,false,false,false,false,false,false,false,false] rfl rfl (any_of HT_.out (by kernel_rfl)) (fun _ _ _ h=>h) (Or.inr ⟨by rfl,rfl⟩) ?_ ?_
            rotate_left
            ·simp only [Act.put,List.setIfInBounds_toArray,List.set_cons_zero,List.set_cons_succ,i64_w,i32_w]
             rfl
            refine pure_ (i:=18) (N:=some 69) (v:=undef) (a':=?_) #[true,true,true,true,true,true,true,true,true,true,true,true,true,true,true,true,true,true,true,false,false,false,false,false,false,false,false,false] rfl rfl (any_of HT_.out (by kernel_rfl)) (fun _ _ _ h=>h) (Or.inr ⟨by rfl,rfl⟩) ?_ ?_
            rotate_left
            ·simp only [Act.put,List.setIfInBounds_toArray,List.set_cons_zero,List.set_cons_succ,i64_w,i32_w]
             rfl
            refine pure_ (i:=19) (N:=some 70) (v:=undef) (a':=?_) #[true,true,true,true,true,true,true,true,true,true,true,true,true,true,true,true,true,true,true,true,false,false,false,false,false,false,false,false] rfl rfl (any_of HT_.out (by kernel_rfl)) (fun _ _ _ h=>h) (Or.inr ⟨by rfl,rfl⟩) ?_ ?_
            rotate_left
            ·simp only [Act.put,List.setIfInBounds_toArray,List.set_cons_zero,List.set_cons_succ,i64_w,i32_w]
             rfl
            refine pure_ (i:=20) (N:=some 71) (v:=undef) (a':=?_) #[true,true,true,true,true,true,true,true,true,true,true,true,true,true,true,true,true,true,true,true,true,false,false,false,false,false,false,false] rfl rfl (any_of HT_.out (by kernel_rfl)) (fun _ _ _ h=>h) (Or.inr ⟨by rfl,rfl⟩) ?_ ?_
            rotate_left
            ·simp only [Act.put,List.setIfInBounds_toArray,List.set_cons_zero,List.set_cons_succ,i64_w,i32_w]
             rfl
            refine pure_ (i:=21) (N:=some 72) (v:=undef) (a':=?_) #[true,true,true,true,true,true,true,true,true,true,true,true,true,true,true,true,true,true,true,true,true,true,false,false,false,false,false,false] rfl rfl (any_of HT_.out (by kernel_rfl)) (fun _ _ _ h=>h) (Or.inr ⟨by rfl,rfl⟩) ?_ ?_
            rotate_left
            ·simp only [Act.put,List.setIfInBounds_toArray,List.set_cons_zero,List.set_cons_succ,i64_w,i32_w]
             rfl
            refine pure_ (i:=22) (N:=some 73) (v:=undef) (a':=?_) #[true,true,true,true,true,true,true,true,true,true,true,true,true,true,true,true,true,true,true,true,true,true,true,false,false,false,false,false] rfl rfl (any_of HT_.out (by kernel_rfl)) (fun _ _ _ h=>h) (Or.inr ⟨by rfl,rfl⟩) ?_ ?_
            rotate_left
            ·simp only [Act.put,List.setIfInBounds_toArray,List.set_cons_zero,List.set_cons_succ,i64_w,i32_w]
             rfl
            refine pure_ (i:=23) (N:=some 74) (v:=undef) (a':=?_) #[true,true,true,true,true,true,true,true,true,true,true,true,true,true,true,true,true,true,true,true,true,true,true,true,false,false,false,false] rfl rfl (any_of HT_.out (by kernel_rfl)) (fun _ _ _ h=>h) (Or.inr ⟨by rfl,rfl⟩) ?_ ?_
            rotate_left
            ·simp only [Act.put,List.setIfInBounds_toArray,List.set_cons_zero,List.set_cons_succ,i64_w,i32_w]
             rfl
            refine pure_ (i:=24) (N:=some 75) (v:=undef) (a':=?_) #[true,true,true,true,true,true,true,true,true,true,true,true,true,true,true,true,true,true,true,true,true,true,true,true,true,false,false,false] rfl rfl (any_of HT_.out (by kernel_rfl)) (fun _ _ _ h=>h) (Or.inr ⟨by rfl,rfl⟩) ?_ ?_
            rotate_left
            ·simp only [Act.put,List.setIfInBounds_toArray,List.set_cons_zero,List.set_cons_succ,i64_w,i32_w]
             rfl
            refine pure_ (i:=25) (N:=some 76) (v:=undef) (a':=?_) #[true,true,true,true,true,true,true,true,true,true,true,true,true,true,true,true,true,true,true,true,true,true,true,true,true,true,false,false] rfl rfl (any_of HT_.out (by kernel_rfl)) (fun _ _ _ h=>h) (Or.inr ⟨by rfl,rfl⟩) ?_ ?_
            rotate_left
            ·simp only [Act.put,List.setIfInBounds_toArray,List.set_cons_zero,List.set_cons_succ,i64_w,i32_w]
             rfl
            refine pure_ (i:=26) (N:=some 77) (v:=undef) (a':=?_) #[true,true,true,true,true,true,true,true,true,true,true,true,true,true,true,true,true,true,true,true,true,true,true,true,true,true,true,false] rfl rfl (any_of HT_.out (by kernel_rfl)) (fun _ _ _ h=>h) (Or.inr ⟨by rfl,rfl⟩) ?_ ?_
            rotate_left
            ·simp only [Act.put,List.setIfInBounds_toArray,List.set_cons_zero,List.set_cons_succ,i64_w,i32_w]
             rfl
            refine pure_ (i:=27) (N:=some 78) (v:=?_) (a':=?_) #[true,true,true,true,true,true,true,true,true,true,true,true,true,true,true,true,true,true,true,true,true,true,true,true,true,true,true,true] rfl rfl (any_of HT_.out (by kernel_rfl)) (fun _ _ _ h=>h) (Or.inl ⟨by rfl,?_⟩) ?_ ?_
            rotate_left
            ·intro w'
             go_simp
             with_reducible rfl
            rotate_left
            ·simp only [Act.put,List.setIfInBounds_toArray,List.set_cons_zero,List.set_cons_succ,i64_w,i32_w]
             rfl
            refine done_ (done_of HT_.out (by kernel_rfl)) ?_
            try go_wp2
            go_ret
            exact ⟨by first|rfl|(simp [errW_none,errW_some]<;>rfl)|(simp [*,errW_none,errW_some]<;>rfl),by repeat (first|exact HB.out|apply below_alloc|apply pw_below_drewN|apply below_drew1|refine below_set ?_ GE176.out)⟩
          ·rw [if_neg c24] at H
           exact absurd H (by simp)
         ·rw [if_neg c23] at H
          have c23b0:decide (x3_3<(l0_4.length:Int))=false:=decide_eq_false c23
          clear c23
          have H':=Aside0.mk H
          clear H
          obtain ⟨hcz40_0,hcz40_1,hcz40_2,hcz40_3,hcz40_4,hcz40_5,hcz40_6,hfz40_0,hfz40_1,hfz40_2,hfz40_3,hfz40_4,hfz40_5,hfz40_6⟩:=blkf7 BK176.out
          go_wp2
          go_loopg [4] k3 (fun kq v4 w'=>∃ (x4_4:Int),v4=.int .i64 x4_4∧Aside0 (spec_FontOk.l1 kq x4_4 a0_0 a0_1 a0_2 a0_3 l0_4 l0_5 l0_6=some r)∧Aside0 (kq≤k3)∧Aside0 (w'.heap[gb176]?=some (.cells #[.int .i64 a0_0,.int .i64 a0_1,.int .i64 a0_2,.int .i64 a0_3,(.slice A0_4 l0_4.length c0_4),(.slice A0_5 l0_5.length c0_5),(.slice A0_6 l0_6.length c0_6)] 34 (0,0)))∧Aside0 (Below w.heap.size w w'))
          case atStart=>exact ⟨(0),(by first|rfl|(simp;done)|(simp [*];done)),H',⟨Nat.le_refl _⟩,⟨by (with_reducible repeat (first|refine blk_drewN ?_ _|refine blk_drew ?_|refine blk_alloc ?_ _));exact BK176.out⟩,⟨by repeat (first|exact HB.out|apply below_alloc|apply pw_below_drewN|apply below_drew1|refine below_set ?_ GE176.out)⟩⟩
          case round=>
           clear H'
           try clear p1;try clear q1;try clear hx1;try clear c2;try clear p2;try clear c3;try clear c5;try clear p6;try clear p18;try clear q18;try clear hx18;try clear c23;try clear c23b0;try clear c24;try clear c26;try clear c27;try clear c27b0;try clear c29;try clear c30;try clear hcz36_0;try clear hcz36_1;try clear hcz36_2;try clear hcz36_3;try clear hcz36_4;try clear hcz36_5;try clear hcz36_6;try clear hcz38_0;try clear hcz38_1;try clear hcz38_2;try clear hcz38_3;try clear hcz38_4;try clear hcz38_5;try clear hcz38_6;try clear hcz40_0;try clear hcz40_1;try clear hcz40_2;try clear hcz40_3;try clear hcz40_4;try clear hcz40_5;try clear hcz40_6;try clear hfz36_0;try clear hfz36_1;try clear hfz36_2;try clear hfz36_3;try clear hfz36_4;try clear hfz36_5;try clear hfz36_6;try clear hfz38_0;try clear hfz38_1;try clear hfz38_2;try clear hfz38_3;try clear hfz38_4;try clear hfz38_5;try clear hfz38_6;try clear hfz40_0;try clear hfz40_1;try clear hfz40_2;try clear hfz40_3;try clear hfz40_4;try clear hfz40_5;try clear hfz40_6;try clear hx181_0;try clear hx181_1;try clear p181;try clear q181
           obtain ⟨x4_4,rfl,HA,HK4,BK176,HB⟩:=hrel
           cases gk with
          |zero=>exact absurd HA.out (by simp [spec_FontOk.l1])
          |succ k4=>
            have H:=HA.out
            clear HA
            simp only [spec_FontOk.l1] at H
            by_cases c41:x4_4<(l0_5.length:Int)
            ·rw [if_pos c41] at H
             have c41b0:decide (x4_4<(l0_5.length:Int))=true:=decide_eq_true c41
             clear c41
             by_cases c42:0≤x4_4
             ·rw [if_pos c42] at H
              have c42b0:decide (0≤x4_4)=true:=decide_eq_true c42
              clear c42
              replace H:=Option.bind_eq_some_iff.mp H
              obtain ⟨t186,A430,H⟩:=H
              replace H:(if t186=true then (if x4_4 > 0 then (if 0≤(wrap64 (x4_4 - 1)) then (if (wrap64 (x4_4 - 1))<(l0_5.length:Int) then ((spec_l12Less.f ((rd_T81 l0_5 (wrap64 (x4_4 - 1))).f0) ((rd_T81 l0_5 (wrap64 (x4_4 - 1))).f1) ((rd_T81 l0_5 x4_4).f0) ((rd_T81 l0_5 x4_4).f1)).bind fun t191=>(if t191=true then (spec_FontOk.l1 k4 (wrap64 (x4_4+1)) a0_0 a0_1 a0_2 a0_3 l0_4 l0_5 l0_6) else (some false))) else (none)) else (none)) else (spec_FontOk.l1 k4 (wrap64 (x4_4+1)) a0_0 a0_1 a0_2 a0_3 l0_4 l0_5 l0_6)) else (some false))=some r:=H
              have A43:=Aside0.mk A430
              clear A430
              by_cases c44:t186=true
              ·subst c44
               have H1:(if x4_4 > 0 then (if 0≤(wrap64 (x4_4 - 1)) then (if (wrap64 (x4_4 - 1))<(l0_5.length:Int) then ((spec_l12Less.f ((rd_T81 l0_5 (wrap64 (x4_4 - 1))).f0) ((rd_T81 l0_5 (wrap64 (x4_4 - 1))).f1) ((rd_T81 l0_5 x4_4).f0) ((rd_T81 l0_5 x4_4).f1)).bind fun t191=>(if t191=true then (spec_FontOk.l1 k4 (wrap64 (x4_4+1)) a0_0 a0_1 a0_2 a0_3 l0_4 l0_5 l0_6) else (some false))) else (none)) else (none)) else (spec_FontOk.l1 k4 (wrap64 (x4_4+1)) a0_0 a0_1 a0_2 a0_3 l0_4 l0_5 l0_6))=some r:=by rw [if_pos rfl] at H;exact H
               clear H
               have H:=H1
               clear H1
               by_cases c45:x4_4 > 0
               ·rw [if_pos c45] at H
                have c45b0:decide (0<x4_4)=true:=decide_eq_true c45
                clear c45
                obtain ⟨ji46,hji46⟩:∃ j_:Int,(wrap64 (x4_4 - 1))=j_:=⟨_,rfl⟩
                replace H:(if 0≤(ji46) then (if (ji46)<(l0_5.length:Int) then ((spec_l12Less.f ((rd_T81 l0_5 (ji46)).f0) ((rd_T81 l0_5 (ji46)).f1) ((rd_T81 l0_5 x4_4).f0) ((rd_T81 l0_5 x4_4).f1)).bind fun t191=>(if t191=true then (spec_FontOk.l1 k4 (wrap64 (x4_4+1)) a0_0 a0_1 a0_2 a0_3 l0_4 l0_5 l0_6) else (some false))) else (none)) else (none))=some r:=by first|(rw [hji46] at H;exact H)|(simp only [hji46] at H ⊢;exact H)
                (try rw [hji46] at A43)
                have hji46w:(IntKind.i64.wrap (x4_4 - 1))=ji46:=(i64_w _).trans hji46
                by_cases c47:0≤(ji46)
                ·rw [if_pos c47] at H
                 have c47b0:decide (0≤(ji46))=true:=decide_eq_true c47
                 clear c47
                 by_cases c48:(ji46)<(l0_5.length:Int)
                 ·rw [if_pos c48] at H
                  have c48b0:decide ((ji46)<(l0_5.length:Int))=true:=decide_eq_true c48
                  clear c48
                  replace H:=Option.bind_eq_some_iff.mp H
                  obtain ⟨t191,A490,H⟩:=H
                  replace H:(if t191=true then (spec_FontOk.l1 k4 (wrap64 (x4_4+1)) a0_0 a0_1 a0_2 a0_3 l0_4 l0_5 l0_6) else (some false))=some r:=H
                  have A49:=Aside0.mk A490
                  clear A490
                  by_cases c50:t191=true
                  ·subst c50
                   have H1:(spec_FontOk.l1 k4 (wrap64 (x4_4+1)) a0_0 a0_1 a0_2 a0_3 l0_4 l0_5 l0_6)=some r:=by rw [if_pos rfl] at H;exact H
                   clear H
                   have H:=H1
                   clear H1
                   have H':=Aside0.mk H
                   clear H
                   obtain ⟨hcz51_0,hcz51_1,hcz51_2,hcz51_3,hcz51_4,hcz51_5,hcz51_6,hfz51_0,hfz51_1,hfz51_2,hfz51_3,hfz51_4,hfz51_5,hfz51_6⟩:=blkf7 BK176.out
                   have p185:0≤(x4_4:Int):=of_decide_eq_true (by first|(with_reducible assumption)|assumption)
                   have q185:x4_4<(l0_5.length:Int):=of_decide_eq_true (by first|(with_reducible assumption)|assumption)
                   obtain ⟨ad185,e185,hx185_0,hx185_1,hx185_2⟩:=at_T81 HR0_5.out x4_4 p185 q185
                   cases e185
                   replace hx185_0:=pw_cell_below HB.out hx185_0
                   replace hx185_1:=pw_cell_below HB.out hx185_1
                   replace hx185_2:=pw_cell_below HB.out hx185_2
                   replace p185:=eq_true p185
                   replace q185:=eq_true q185
                   try go_wp2_with (first|((with_reducible refine gate_callee (f:=52) rfl ?_);refine goesL_ (some 92) rfl rfl Try.func52 (by kernel_rfl) rfl #[.int .i64 ((rd_T81 l0_5 x4_4).f2),.int .i64 (-10000),.int .i64 10000] rfl (by (try simp only [List.map_toArray,List.map_cons,List.map_nil]);first|done|rfl|(simp only [List.length_drop,List.length_take];rfl)) ?_;(with_reducible refine (spec_l12In.calls ((rd_T81 l0_5 x4_4).f2) (-10000) 10000 true _ A43.out).mono ?_);rintro e w' ⟨rfl,⟨nd,rfl⟩⟩;refine ⟨_,rfl,?_⟩))
                   (try (rw [drewN_self wr];generalize hq_:World.drewN wr _=wr;have n0_:Aside0 (wr.heap[gb176]?=some (.cells #[.int .i64 a0_0,.int .i64 a0_1,.int .i64 a0_2,.int .i64 a0_3,.slice A0_4 l0_4.length c0_4,.slice (some ad185) l0_5.length c0_5,.slice A0_6 l0_6.length c0_6] 34 (0,0))):=⟨by rw [← hq_];exact (by (with_reducible repeat (first|refine blk_drewN ?_ _|refine blk_drew ?_|refine blk_alloc ?_ _));exact BK176.out)⟩;have n1_:Aside0 (Below w.heap.size w wr):=⟨by rw [← hq_];exact (by repeat (first|exact HB.out|apply below_alloc|apply pw_below_drewN|apply below_drew1|refine below_set ?_ GE176.out))⟩;clear BK176 HB hq_;have BK176:=n0_;have HB:=n1_;clear n0_ n1_))
                   have n0_:=Aside0.mk (blk_drew BK176.out)
                   have n1_:=Aside0.mk (below_drew1 HB.out)
                   clear BK176
                   clear HB
                   have BK176:=n0_
                   have HB:=n1_
                   clear n0_ n1_
                   have p187:0≤((ji46):Int):=of_decide_eq_true (by first|(with_reducible assumption)|assumption)
                   have q187:(ji46)<(l0_5.length:Int):=of_decide_eq_true (by first|(with_reducible assumption)|assumption)
                   obtain ⟨ad187,e187,hx187_0,hx187_1,hx187_2⟩:=at_T81 HR0_5.out (ji46) p187 q187
                   have hw187_2:=hx187_2
                   have hw187_1:=hx187_1
                   have hw187_0:=hx187_0
                   obtain rfl:ad185=ad187:=(by injection e187)
                   replace hx187_0:=pw_cell_below HB.out hx187_0
                   replace hx187_1:=pw_cell_below HB.out hx187_1
                   replace hx187_2:=pw_cell_below HB.out hx187_2
                   replace p187:=eq_true p187
                   replace q187:=eq_true q187
                   have p188:0≤((ji46):Int):=of_decide_eq_true (by first|(with_reducible assumption)|assumption)
                   have q188:(ji46)<(l0_5.length:Int):=of_decide_eq_true (by first|(with_reducible assumption)|assumption)
                   obtain ⟨ad188,e188,hx188_0,hx188_1,hx188_2⟩:=at_T81 HR0_5.out (ji46) p188 q188
                   have hw188_2:=hx188_2
                   have hw188_1:=hx188_1
                   have hw188_0:=hx188_0
                   obtain rfl:ad185=ad188:=(by injection e188)
                   replace hx188_0:=pw_cell_below HB.out hx188_0
                   replace hx188_1:=pw_cell_below HB.out hx188_1
                   replace hx188_2:=pw_cell_below HB.out hx188_2
                   replace p188:=eq_true p188
                   replace q188:=eq_true q188
                   have p189:0≤(x4_4:Int):=of_decide_eq_true (by first|(with_reducible assumption)|assumption)
                   have q189:x4_4<(l0_5.length:Int):=of_decide_eq_true (by first|(with_reducible assumption)|assumption)
                   obtain ⟨ad189,e189,hx189_0,hx189_1,hx189_2⟩:=at_T81 HR0_5.out x4_4 p189 q189
                   have hw189_2:=hx189_2
                   have hw189_1:=hx189_1
                   have hw189_0:=hx189_0
                   obtain rfl:ad185=ad189:=(by injection e189)
                   replace hx189_0:=pw_cell_below HB.out hx189_0
                   replace hx189_1:=pw_cell_below HB.out hx189_1
                   replace hx189_2:=pw_cell_below HB.out hx189_2
                   replace p189:=eq_true p189
                   replace q189:=eq_true q189
                   have p190:0≤(x4_4:Int):=of_decide_eq_true (by first|(with_reducible assumption)|assumption)
                   have q190:x4_4<(l0_5.length:Int):=of_decide_eq_true (by first|(with_reducible assumption)|assumption)
                   obtain ⟨ad190,e190,hx190_0,hx190_1,hx190_2⟩:=at_T81 HR0_5.out x4_4 p190 q190
                   have hw190_2:=hx190_2
                   have hw190_1:=hx190_1
                   have hw190_0:=hx190_0
                   obtain rfl:ad185=ad190:=(by injection e190)
                   replace hx190_0:=pw_cell_below HB.out hx190_0
                   replace hx190_1:=pw_cell_below HB.out hx190_1
                   replace hx190_2:=pw_cell_below HB.out hx190_2
                   replace p190:=eq_true p190
                   replace q190:=eq_true q190
                   refine start_ (n:=32) (S:=fun w'=>w'.cell? ⟨gb176,0,none⟩=some (.int .i64 a0_0)∧w'.cell? ⟨gb176,1,none⟩=some (.int .i64 a0_1)∧w'.cell? ⟨gb176,2,none⟩=some (.int .i64 a0_2)∧w'.cell? ⟨gb176,3,none⟩=some (.int .i64 a0_3)∧w'.cell? ⟨gb176,4,none⟩=some (.slice A0_4 l0_4.length c0_4)∧w'.cell? ⟨gb176,5,none⟩=some (.slice (some ad185) l0_5.length c0_5)∧w'.cell? ⟨gb176,6,none⟩=some (.slice A0_6 l0_6.length c0_6)∧w'.cell? (ad185.add (((ji46)).toNat*3))=some (.int .i64 ((rd_T81 l0_5 (ji46)).f0))∧w'.cell? ⟨(ad185.add (((ji46)).toNat*3)).block,(ad185.add (((ji46)).toNat*3)).off+1,none⟩=some (.int .i64 ((rd_T81 l0_5 (ji46)).f1))∧w'.cell? ⟨(ad185.add (((ji46)).toNat*3)).block,(ad185.add (((ji46)).toNat*3)).off+2,none⟩=some (.int .i64 ((rd_T81 l0_5 (ji46)).f2))∧w'.cell? (ad185.add (((ji46)).toNat*3))=some (.int .i64 ((rd_T81 l0_5 (ji46)).f0))∧w'.cell? ⟨(ad185.add (((ji46)).toNat*3)).block,(ad185.add (((ji46)).toNat*3)).off+1,none⟩=some (.int .i64 ((rd_T81 l0_5 (ji46)).f1))∧w'.cell? ⟨(ad185.add (((ji46)).toNat*3)).block,(ad185.add (((ji46)).toNat*3)).off+2,none⟩=some (.int .i64 ((rd_T81 l0_5 (ji46)).f2))∧w'.cell? (ad185.add ((x4_4).toNat*3))=some (.int .i64 ((rd_T81 l0_5 x4_4).f0))∧w'.cell? ⟨(ad185.add ((x4_4).toNat*3)).block,(ad185.add ((x4_4).toNat*3)).off+1,none⟩=some (.int .i64 ((rd_T81 l0_5 x4_4).f1))∧w'.cell? ⟨(ad185.add ((x4_4).toNat*3)).block,(ad185.add ((x4_4).toNat*3)).off+2,none⟩=some (.int .i64 ((rd_T81 l0_5 x4_4).f2))∧w'.cell? (ad185.add ((x4_4).toNat*3))=some (.int .i64 ((rd_T81 l0_5 x4_4).f0))∧w'.cell? ⟨(ad185.add ((x4_4).toNat*3)).block,(ad185.add ((x4_4).toNat*3)).off+1,none⟩=some (.int .i64 ((rd_T81 l0_5 x4_4).f1))∧w'.cell? ⟨(ad185.add ((x4_4).toNat*3)).block,(ad185.add ((x4_4).toNat*3)).off+2,none⟩=some (.int .i64 ((rd_T81 l0_5 x4_4).f2))) (ds:=[]) #[false,false,false,false,false,false,false,false,false,false,false,false,false,false,false,false,false,false,false,false,false,false,false,false,false,false,false,false,false,false,false,false] (by kernel_rfl) rfl rfl ⟨(blk_cell BK176.out 0).trans rfl,(blk_cell BK176.out 1).trans rfl,(blk_cell BK176.out 2).trans rfl,(blk_cell BK176.out 3).trans rfl,(blk_cell BK176.out 4).trans rfl,(blk_cell BK176.out 5).trans rfl,(blk_cell BK176.out 6).trans rfl,((HB.out.cell (World.block_lt_of_cell? w _ hw187_0)).trans hw187_0),((HB.out.cell (World.block_lt_of_cell? w _ hw187_1)).trans hw187_1),((HB.out.cell (World.block_lt_of_cell? w _ hw187_2)).trans hw187_2),((HB.out.cell (World.block_lt_of_cell? w _ hw188_0)).trans hw188_0),((HB.out.cell (World.block_lt_of_cell? w _ hw188_1)).trans hw188_1),((HB.out.cell (World.block_lt_of_cell? w _ hw188_2)).trans hw188_2),((HB.out.cell (World.block_lt_of_cell? w _ hw189_0)).trans hw189_0),((HB.out.cell (World.block_lt_of_cell? w _ hw189_1)).trans hw189_1),((HB.out.cell (World.block_lt_of_cell? w _ hw189_2)).trans hw189_2),((HB.out.cell (World.block_lt_of_cell? w _ hw190_0)).trans hw190_0),((HB.out.cell (World.block_lt_of_cell? w _ hw190_1)).trans hw190_1),((HB.out.cell (World.block_lt_of_cell? w _ hw190_2)).trans hw190_2)⟩ (fun hHeld=>?_);refine with_tabW spec_FontOk.tab15 spec_FontOk.bits15 (fun HT_ HW_=>?_)
                   generalize wr.drew=w52 at BK176 HB hx187_0 hx187_1 hx187_2 hx188_0 hx188_1 hx188_2 hx189_0 hx189_1 hx189_2 hx190_0 hx190_1 hx190_2 hHeld ⊢
                   refine pure_ (i:=0) (N:=some 94) (v:=?_) (a':=?_) #[true,false,false,false,false,false,false,false,false,false,false,false,false,false,false,false,false,false,false,false,false,false,false,false,false,false,false,false,false,false,false,false] rfl rfl (any_of HT_.out (by kernel_rfl)) (fun _ _ _ h=>h) (Or.inl ⟨by rfl,?_⟩) ?_ ?_
                   rotate_left
                   ·intro w'
                    go_simp
                    with_reducible rfl
                   rotate_left
                   ·simp only [Act.put,List.setIfInBounds_toArray,List.set_cons_zero,List.set_cons_succ,i64_w,i32_w]
                    rfl
                   refine pure_ (i:=1) (N:=some 95) (v:=?_) (a':=?_) #[true,true,false,false,false,false,false,false,false,false,false,false,false,false,false,false,false,false,false,false,false,false,false,false,false,false,false,false,false,false,false,false] rfl rfl (any_of HT_.out (by kernel_rfl)) (fun _ _ _ h=>h) (Or.inl ⟨by rfl,?_⟩) ?_ ?_
                   rotate_left
                   ·intro w'
                    go_simp
                    with_reducible rfl
                   rotate_left
                   ·simp only [Act.put,List.setIfInBounds_toArray,List.set_cons_zero,List.set_cons_succ,i64_w,i32_w]
                    rfl
                   refine pure_ (i:=2) (N:=some 96) (v:=?_) (a':=?_) #[true,true,true,false,false,false,false,false,false,false,false,false,false,false,false,false,false,false,false,false,false,false,false,false,false,false,false,false,false,false,false,false] rfl rfl (any_of HT_.out (by kernel_rfl)) (fun _ _ _ h=>h) (Or.inl ⟨by rfl,?_⟩) ?_ ?_
                   rotate_left
                   ·intro w'
                    go_simp
                    with_reducible rfl
                   rotate_left
                   ·simp only [Act.put,List.setIfInBounds_toArray,List.set_cons_zero,List.set_cons_succ,i64_w,i32_w]
                    rfl
                   refine pure_ (i:=3) (N:=some 97) (v:=?_) (a':=?_) #[true,true,true,true,false,false,false,false,false,false,false,false,false,false,false,false,false,false,false,false,false,false,false,false,false,false,false,false,false,false,false,false] rfl rfl (any_of HT_.out (by kernel_rfl)) (fun _ _ _ h=>h) (Or.inl ⟨by rfl,?_⟩) ?_ ?_
                   rotate_left
                   ·intro w'
                    go_simp
                    with_reducible rfl
                   rotate_left
                   ·simp only [Act.put,List.setIfInBounds_toArray,List.set_cons_zero,List.set_cons_succ,i64_w,i32_w]
                    rfl
                   refine pure_ (i:=5) (N:=some 99) (v:=?_) (a':=?_) #[true,true,true,true,false,true,false,false,false,false,false,false,false,false,false,false,false,false,false,false,false,false,false,false,false,false,false,false,false,false,false,false] rfl rfl (any_of HT_.out (by kernel_rfl)) (fun _ _ _ h=>h) (Or.inl ⟨by rfl,?_⟩) ?_ ?_
                   rotate_left
                   ·intro w'
                    go_simp
                    with_reducible rfl
                   rotate_left
                   ·simp only [Act.put,List.setIfInBounds_toArray,List.set_cons_zero,List.set_cons_succ,i64_w,i32_w]
                    rfl
                   refine pure_ (i:=6) (N:=some 100) (v:=?_) (a':=?_) #[true,true,true,true,false,true,true,false,false,false,false,false,false,false,false,false,false,false,false,false,false,false,false,false,false,false,false,false,false,false,false,false] rfl rfl (any_of HT_.out (by kernel_rfl)) (fun _ _ _ h=>h) (Or.inl ⟨by rfl,?_⟩) ?_ ?_
                   rotate_left
                   ·intro w'
                    go_simp
                    with_reducible rfl
                   rotate_left
                   ·simp only [Act.put,List.setIfInBounds_toArray,List.set_cons_zero,List.set_cons_succ,i64_w,i32_w]
                    rfl
                   refine pure_ (i:=10) (N:=some 104) (v:=?_) (a':=?_) #[true,true,true,true,false,true,true,false,false,false,true,false,false,false,false,false,false,false,false,false,false,false,false,false,false,false,false,false,false,false,false,false] rfl rfl (any_of HT_.out (by kernel_rfl)) (fun _ _ _ h=>h) (Or.inl ⟨by rfl,?_⟩) ?_ ?_
                   rotate_left
                   ·intro w'
                    go_simp
                    with_reducible rfl
                   rotate_left
                   ·simp only [Act.put,List.setIfInBounds_toArray,List.set_cons_zero,List.set_cons_succ,i64_w,i32_w]
                    rfl
                   refine pure_ (i:=12) (N:=some 106) (v:=?_) (a':=?_) #[true,true,true,true,false,true,true,false,false,false,true,false,true,false,false,false,false,false,false,false,false,false,false,false,false,false,false,false,false,false,false,false] rfl rfl (any_of HT_.out (by kernel_rfl)) (fun _ _ _ h=>h) (Or.inl ⟨by rfl,?_⟩) ?_ ?_
                   rotate_left
                   ·intro w'
                    go_simp
                    with_reducible rfl
                   rotate_left
                   ·simp only [Act.put,List.setIfInBounds_toArray,List.set_cons_zero,List.set_cons_succ,i64_w,i32_w]
                    rfl
                   refine pure_ (i:=13) (N:=some 107) (v:=?_) (a':=?_) #[true,true,true,true,false,true,true,false,false,false,true,false,true,true,false,false,false,false,false,false,false,false,false,false,false,false,false,false,false,false,false,false] rfl rfl (any_of HT_.out (by kernel_rfl)) (fun _ _ _ h=>h) (Or.inl ⟨by rfl,?_⟩) ?_ ?_
                   rotate_left
                   ·intro w'
                    go_simp
                    with_reducible rfl
                   rotate_left
                   ·simp only [Act.put,List.setIfInBounds_toArray,List.set_cons_zero,List.set_cons_succ,i64_w,i32_w]
                    rfl
                   refine pure_ (i:=17) (N:=some 111) (v:=?_) (a':=?_) #[true,true,true,true,false,true,true,false,false,false,true,false,true,true,false,false,false,true,false,false,false,false,false,false,false,false,false,false,false,false,false,false] rfl rfl (any_of HT_.out (by kernel_rfl)) (fun _ _ _ h=>h) (Or.inl ⟨by rfl,?_⟩) ?_ ?_
                   rotate_left
                   ·intro w'
                    go_simp
                    with_reducible rfl
                   rotate_left
                   ·simp only [Act.put,List.setIfInBounds_toArray,List.set_cons_zero,List.set_cons_succ,i64_w,i32_w]
                    rfl
                   refine pure_ (i:=19) (N:=some 113) (v:=?_) (a':=?_) #[true,true,true,true,false,true,true,false,false,false,true,false,true,true,false,false,false,true,false,true,false,false,false,false,false,false,false,false,false,false,false,false] rfl rfl (any_of HT_.out (by kernel_rfl)) (fun _ _ _ h=>h) (Or.inl ⟨by rfl,?_⟩) ?_ ?_
                   rotate_left
                   ·intro w'
                    go_simp
                    with_reducible rfl
                   rotate_left
                   ·simp only [Act.put,List.setIfInBounds_toArray,List.set_cons_zero,List.set_cons_succ,i64_w,i32_w]
                    rfl
                   refine pure_ (i:=23) (N:=some 117) (v:=?_) (a':=?_) #[true,true,true,true,false,true,true,false,false,false,true,false,true,true,false,false,false,true,false,true,false,false,false,true,false,false,false,false,false,false,false,false] rfl rfl (any_of HT_.out (by kernel_rfl)) (fun _ _ _ h=>h) (Or.inl ⟨by rfl,?_⟩) ?_ ?_
                   rotate_left
                   ·intro w'
                    go_simp
                    with_reducible rfl
                   rotate_left
                   ·simp only [Act.put,List.setIfInBounds_toArray,List.set_cons_zero,List.set_cons_succ,i64_w,i32_w]
                    rfl
                   refine pure_ (i:=25) (N:=some 119) (v:=?_) (a':=?_) #[true,true,true,true,false,true,true,false,false,false,true,false,true,true,false,false,false,true,false,true,false,false,false,true,false,true,false,false,false,false,false,false] rfl rfl (any_of HT_.out (by kernel_rfl)) (fun _ _ _ h=>h) (Or.inl ⟨by rfl,?_⟩) ?_ ?_
                   rotate_left
                   ·intro w'
                    go_simp
                    with_reducible rfl
                   rotate_left
                   ·simp only [Act.put,List.setIfInBounds_toArray,List.set_cons_zero,List.set_cons_succ,i64_w,i32_w]
                    rfl
                   refine take_ (i:=4) (N:=some 98) (v:=?_) (a':=?_) #[true,true,true,true,true,true,true,false,false,false,true,false,true,true,false,false,false,true,false,true,false,false,false,true,false,true,false,false,false,false,false,false] rfl rfl (take_ofW HT_.out HW_.out (by kernel_rfl)) (fun _ _ _ h=>h) (Or.inl ⟨by rfl,?_⟩) hHeld ?_ ?_
                   rotate_left
                   ·rintro w' ⟨s0,s1,s2,s3,s4,s5,s6,s7,s8,s9,s10,s11,s12,s13,s14,s15,s16,s17,s18⟩
                    go_simp
                    with_reducible rfl
                   rotate_left
                   ·simp only [Act.put,List.setIfInBounds_toArray,List.set_cons_zero,List.set_cons_succ,i64_w,i32_w]
                    rfl
                   refine pure_ (i:=7) (N:=some 101) (v:=?_) (a':=?_) #[true,true,true,true,true,true,true,true,false,false,true,false,true,true,false,false,false,true,false,true,false,false,false,true,false,true,false,false,false,false,false,false] rfl rfl (any_of HT_.out (by kernel_rfl)) (fun _ _ _ h=>h) (Or.inl ⟨by rfl,?_⟩) ?_ ?_
                   rotate_left
                   ·intro w'
                    go_simp
                    with_reducible rfl
                   rotate_left
                   ·simp only [Act.put,List.setIfInBounds_toArray,List.set_cons_zero,List.set_cons_succ,i64_w,i32_w]
                    rfl
                   refine pure_ (i:=8) (N:=some 102) (v:=?_) (a':=?_) #[true,true,true,true,true,true,true,true,true,false,true,false,true,true,false,false,false,true,false,true,false,false,false,true,false,true,false,false,false,false,false,false] rfl rfl (any_of HT_.out (by kernel_rfl)) (fun _ _ _ h=>h) (Or.inl ⟨by rfl,?_⟩) ?_ ?_
                   rotate_left
                   ·intro w'
                    go_simp
                    with_reducible rfl
                   rotate_left
                   ·simp only [Act.put,List.setIfInBounds_toArray,List.set_cons_zero,List.set_cons_succ,i64_w,i32_w]
                    rfl
                   refine take_ (i:=9) (N:=some 103) (v:=?_) (a':=?_) #[true,true,true,true,true,true,true,true,true,true,true,false,true,true,false,false,false,true,false,true,false,false,false,true,false,true,false,false,false,false,false,false] rfl rfl (take_ofW HT_.out HW_.out (by kernel_rfl)) (fun _ _ _ h=>h) (Or.inl ⟨by rfl,?_⟩) hHeld ?_ ?_
                   rotate_left
                   ·rintro w' ⟨s0,s1,s2,s3,s4,s5,s6,s7,s8,s9,s10,s11,s12,s13,s14,s15,s16,s17,s18⟩
                    go_simp
                    with_reducible rfl
                   rotate_left
                   ·simp only [Act.put,List.setIfInBounds_toArray,List.set_cons_zero,List.set_cons_succ,i64_w,i32_w]
                    rfl
                   refine take_ (i:=11) (N:=some 105) (v:=?_) (a':=?_) #[true,true,true,true,true,true,true,true,true,true,true,true,true,true,false,false,false,true,false,true,false,false,false,true,false,true,false,false,false,false,false,false] rfl rfl (take_ofW HT_.out HW_.out (by kernel_rfl)) (fun _ _ _ h=>h) (Or.inl ⟨by rfl,?_⟩) hHeld ?_ ?_
                   rotate_left
                   ·rintro w' ⟨s0,s1,s2,s3,s4,s5,s6,s7,s8,s9,s10,s11,s12,s13,s14,s15,s16,s17,s18⟩
                    go_simp
                    with_reducible rfl
                   rotate_left
                   ·simp only [Act.put,List.setIfInBounds_toArray,List.set_cons_zero,List.set_cons_succ,i64_w,i32_w]
                    rfl
                   refine pure_ (i:=14) (N:=some 108) (v:=?_) (a':=?_) #[true,true,true,true,true,true,true,true,true,true,true,true,true,true,true,false,false,true,false,true,false,false,false,true,false,true,false,false,false,false,false,false] rfl rfl (any_of HT_.out (by kernel_rfl)) (fun _ _ _ h=>h) (Or.inl ⟨by rfl,?_⟩) ?_ ?_
                   rotate_left
                   ·intro w'
                    go_simp
                    with_reducible rfl
                   rotate_left
                   ·simp only [Act.put,List.setIfInBounds_toArray,List.set_cons_zero,List.set_cons_succ,i64_w,i32_w]
                    rfl
                   refine pure_ (i:=15) (N:=some 109) (v:=?_) (a':=?_) #[true,true,true,true,true,true,true,true,true,true,true,true,true,true,true,true,false,true,false,true,false,false,false,true,false,true,false,false,false,false,false,false] rfl rfl (any_of HT_.out (by kernel_rfl)) (fun _ _ _ h=>h) (Or.inl ⟨by rfl,?_⟩) ?_ ?_
                   rotate_left
                   ·intro w'
                    go_simp
                    with_reducible rfl
                   rotate_left
                   ·simp only [Act.put,List.setIfInBounds_toArray,List.set_cons_zero,List.set_cons_succ,i64_w,i32_w]
                    rfl
                   refine take_ (i:=16) (N:=some 110) (v:=?_) (a':=?_) #[true,true,true,true,true,true,true,true,true,true,true,true,true,true,true,true,true,true,false,true,false,false,false,true,false,true,false,false,false,false,false,false] rfl rfl (take_ofW HT_.out HW_.out (by kernel_rfl)) (fun _ _ _ h=>h) (Or.inl ⟨by rfl,?_⟩) hHeld ?_ ?_
                   rotate_left
                   ·rintro w' ⟨s0,s1,s2,s3,s4,s5,s6,s7,s8,s9,s10,s11,s12,s13,s14,s15,s16,s17,s18⟩
                    go_simp
                    with_reducible rfl
                   rotate_left
                   ·simp only [Act.put,List.setIfInBounds_toArray,List.set_cons_zero,List.set_cons_succ,i64_w,i32_w]
                    rfl
                   refine take_ (i:=18) (N:=some 112) (v:=?_) (a':=?_) #[true,true,true,true,true,true,true,true,true,true,true,true,true,true,true,true,true,true,true,true,false,false,false,true,false,true,false,false,false,false,false,false] rfl rfl (take_ofW HT_.out HW_.out (by kernel_rfl)) (fun _ _ _ h=>h) (Or.inl ⟨by rfl,?_⟩) hHeld ?_ ?_
                   rotate_left
                   ·rintro w' ⟨s0,s1,s2,s3,s4,s5,s6,s7,s8,s9,s10,s11,s12,s13,s14,s15,s16,s17,s18⟩
                    go_simp
                    with_reducible rfl
                   rotate_left
                   ·simp only [Act.put,List.setIfInBounds_toArray,List.set_cons_zero,List.set_cons_succ,i64_w,i32_w]
                    rfl
                   refine pure_ (i:=20) (N:=some 114) (v:=?_) (a':=?_) #[true,true,true,true,true,true,true,true,true,true,true,true,true,true,true,true,true,true,true,true,true,false,false,true,false,true,false,false,false,false,false,false] rfl rfl (any_of HT_.out (by kernel_rfl)) (fun _ _ _ h=>h) (Or.inl ⟨by rfl,?_⟩) ?_ ?_
                   rotate_left
                   ·intro w'
                    go_simp
                    with_reducible rfl
                   rotate_left
                   ·simp only [Act.put,List.setIfInBounds_toArray,List.set_cons_zero,List.set_cons_succ,i64_w,i32_w]
                    rfl
                   refine pure_ (i:=21) (N:=some 115) (v:=?_) (a':=?_) #[true,true,true,true,true,true,true,true,true,true,true,true,true,true,true,true,true,true,true,true,true,true,false,true,false,true,false,false,false,false,false,false] rfl rfl (any_of HT_.out (by kernel_rfl)) (fun _ _ _ h=>h) (Or.inl ⟨by rfl,?_⟩) ?_ ?_
                   rotate_left
                   ·intro w'
                    go_simp
                    with_reducible rfl
                   rotate_left
                   ·simp only [Act.put,List.setIfInBounds_toArray,List.set_cons_zero,List.set_cons_succ,i64_w,i32_w]
                    rfl
                   refine take_ (i:=22) (N:=some 116) (v:=?_) (a':=?_) #[true,true,true,true,true,true,true,true,true,true,true,true,true,true,true,true,true,true,true,true,true,true,true,true,false,true,false,false,false,false,false,false] rfl rfl (take_ofW HT_.out HW_.out (by kernel_rfl)) (fun _ _ _ h=>h) (Or.inl ⟨by rfl,?_⟩) hHeld ?_ ?_
                   rotate_left
                   ·rintro w' ⟨s0,s1,s2,s3,s4,s5,s6,s7,s8,s9,s10,s11,s12,s13,s14,s15,s16,s17,s18⟩
                    go_simp
                    with_reducible rfl
                   rotate_left
                   ·simp only [Act.put,List.setIfInBounds_toArray,List.set_cons_zero,List.set_cons_succ,i64_w,i32_w]
                    rfl
                   refine take_ (i:=24) (N:=some 118) (v:=?_) (a':=?_) #[true,true,true,true,true,true,true,true,true,true,true,true,true,true,true,true,true,true,true,true,true,true,true,true,true,true,false,false,false,false,false,false] rfl rfl (take_ofW HT_.out HW_.out (by kernel_rfl)) (fun _ _ _ h=>h) (Or.inl ⟨by rfl,?_⟩) hHeld ?_ ?_
                   rotate_left
                   ·rintro w' ⟨s0,s1,s2,s3,s4,s5,s6,s7,s8,s9,s10,s11,s12,s13,s14,s15,s16,s17,s18⟩
                    go_simp
                    with_reducible rfl
                   rotate_left
                   ·simp only [Act.put,List.setIfInBounds_toArray,List.set_cons_zero,List.set_cons_succ,i64_w,i32_w]
                    rfl
                   refine pure_ (i:=26) (N:=some 120) (v:=?_) (a':=?_) #[true,true,true,true,true,true,true,true,true,true,true,true,true,true,true,true,true,true,true,true,true,true,true,true,true,true,true,false,false,false,false,false] rfl rfl (any_of HT_.out (by kernel_rfl)) (fun _ _ _ h=>h) (Or.inl ⟨by rfl,?_⟩) ?_ ?_
                   rotate_left
                   ·intro w'
                    go_simp
                    with_reducible rfl
                   rotate_left
                   ·simp only [Act.put,List.setIfInBounds_toArray,List.set_cons_zero,List.set_cons_succ,i64_w,i32_w]
                    rfl
                   refine pure_ (i:=27) (N:=some 121) (v:=?_) (a':=?_) #[true,true,true,true,true,true,true,true,true,true,true,true,true,true,true,true,true,true,true,true,true,true,true,true,true,true,true,true,false,false,false,false] rfl rfl (any_of HT_.out (by kernel_rfl)) (fun _ _ _ h=>h) (Or.inl ⟨by rfl,?_⟩) ?_ ?_
                   rotate_left
                   ·intro w'
                    go_simp
                    with_reducible rfl
                   rotate_left
                   ·simp only [Act.put,List.setIfInBounds_toArray,List.set_cons_zero,List.set_cons_succ,i64_w,i32_w]
                    rfl
                   refine take_ (i:=28) (N:=some 122) (v:=?_) (a':=?_) #[true,true,true,true,true,true,true,true,true,true,true,true,true,true,true,true,true,true,true,true,true,true,true,true,true,true,true,true,true,false,false,false] rfl rfl (take_ofW HT_.out HW_.out (by kernel_rfl)) (fun _ _ _ h=>h) (Or.inl ⟨by rfl,?_⟩) hHeld ?_ ?_
                   rotate_left
                   ·rintro w' ⟨s0,s1,s2,s3,s4,s5,s6,s7,s8,s9,s10,s11,s12,s13,s14,s15,s16,s17,s18⟩
                    go_simp
                    with_reducible rfl
                   rotate_left
                   ·simp only [Act.put,List.setIfInBounds_toArray,List.set_cons_zero,List.set_cons_succ,i64_w,i32_w]
                    rfl
                   refine one_ (i:=29) (N:=some 123) #[true,true,true,true,true,true,true,true,true,true,true,true,true,true,true,true,true,true,true,true,true,true,true,true,true,true,true,true,true,true,false,false] rfl rfl (one_of HT_.out (by kernel_rfl)) (by decide) (fun K hK=>?_)
                   refine goes_ Try.func53 (by kernel_rfl) rfl #[.int .i64 ((rd_T81 l0_5 (ji46)).f0),.int .i64 ((rd_T81 l0_5 (ji46)).f1),.int .i64 ((rd_T81 l0_5 x4_4).f0),.int .i64 ((rd_T81 l0_5 x4_4).f1)] (by rfl) rfl rfl (by (try simp only [List.map_toArray,List.map_cons,List.map_nil]);first|done|(simp only [hji46];rfl)|rfl|(simp only [List.length_drop,List.length_take];rfl)) ?_
                   with_reducible refine (spec_l12Less.calls ((rd_T81 l0_5 (ji46)).f0) ((rd_T81 l0_5 (ji46)).f1) ((rd_T81 l0_5 x4_4).f0) ((rd_T81 l0_5 x4_4).f1) true _ A49.out).mono ?_
                   rintro e w' ⟨rfl,⟨nd,rfl⟩⟩
                   refine ⟨_,rfl,?_⟩
                   refine hK.out _ _ ⟨(blk_cell BK176.out 0).trans rfl,(blk_cell BK176.out 1).trans rfl,(blk_cell BK176.out 2).trans rfl,(blk_cell BK176.out 3).trans rfl,(blk_cell BK176.out 4).trans rfl,(blk_cell BK176.out 5).trans rfl,(blk_cell BK176.out 6).trans rfl,((HB.out.cell (World.block_lt_of_cell? w _ hw187_0)).trans hw187_0),((HB.out.cell (World.block_lt_of_cell? w _ hw187_1)).trans hw187_1),((HB.out.cell (World.block_lt_of_cell? w _ hw187_2)).trans hw187_2),((HB.out.cell (World.block_lt_of_cell? w _ hw188_0)).trans hw188_0),((HB.out.cell (World.block_lt_of_cell? w _ hw188_1)).trans hw188_1),((HB.out.cell (World.block_lt_of_cell? w _ hw188_2)).trans hw188_2),((HB.out.cell (World.block_lt_of_cell? w _ hw189_0)).trans hw189_0),((HB.out.cell (World.block_lt_of_cell? w _ hw189_1)).trans hw189_1),((HB.out.cell (World.block_lt_of_cell? w _ hw189_2)).trans hw189_2),((HB.out.cell (World.block_lt_of_cell? w _ hw190_0)).trans hw190_0),((HB.out.cell (World.block_lt_of_cell? w _ hw190_1)).trans hw190_1),((HB.out.cell (World.block_lt_of_cell? w _ hw190_2)).trans hw190_2)⟩ (fun hHeld=>?_)
                   clear hK K
                   refine norm_ (a':=?_) ?_ ?_
                   rotate_left
                   ·show Act.put _ (some 123) _=_
                    simp only [Act.put,List.setIfInBounds_toArray,List.set_cons_zero,List.set_cons_succ,i64_w,i32_w]
                    rfl
                   refine pure_ (i:=30) (N:=some 124) (v:=?_) (a':=?_) #[true,true,true,true,true,true,true,true,true,true,true,true,true,true,true,true,true,true,true,true,true,true,true,true,true,true,true,true,true,true,true,false] rfl rfl (any_of HT_.out (by kernel_rfl)) (fun _ _ _ h=>h) (Or.inl ⟨by rfl,?_⟩) ?_ ?_
                   rotate_left
                   ·intro w'
                    go_simp
                    with_reducible rfl
                   rotate_left
                   ·simp only [Act.put,List.setIfInBounds_toArray,List.set_cons_zero,List.set_cons_succ,i64_w,i32_w]
                    rfl
                   refine pure_ (i:=31) (N:=some 125) (v:=?_) (a':=?_) #[true,true,true,true,true,true,true,true,true,true,true,true,true,true,true,true,true,true,true,true,true,true,true,true,true,true,true,true,true,true,true,true] rfl rfl (any_of HT_.out (by kernel_rfl)) (fun _ _ _ h=>h) (Or.inl ⟨by rfl,?_⟩) ?_ ?_
                   rotate_left
                   ·intro w'
                    go_simp
                    with_reducible rfl
                   rotate_left
                   ·simp only [Act.put,List.setIfInBounds_toArray,List.set_cons_zero,List.set_cons_succ,i64_w,i32_w]
                    rfl
                   refine done_ (done_of HT_.out (by kernel_rfl)) ?_
                   try go_wp2
                   go_roundg k4
                   case measure=>have:=HJ1.out;have:=HJ15.out;have:=HK3.out;have:=HK4.out;omega
                   case rel=>exact ⟨(wrap64 (x4_4+1)),(by first|rfl|(simp;done)|(simp [*];done)),H',⟨by have:=HJ1.out;have:=HJ15.out;have:=HK3.out;have:=HK4.out;omega⟩,⟨by (with_reducible repeat (first|refine blk_drewN ?_ _|refine blk_drew ?_|refine blk_alloc ?_ _));exact BK176.out⟩,⟨by repeat (first|exact HB.out|apply below_alloc|apply pw_below_drewN|apply below_drew1|refine below_set ?_ GE176.out)⟩⟩
                  ·replace c50:=Bool.eq_false_iff.mpr c50
                   subst c50
                   have H1:(some false)=some r:=by rw [if_neg (show ¬ (false=true) by decide)] at H;exact H
                   clear H
                   have H:=H1
                   clear H1
                   obtain rfl:=Option.some.inj H
                   obtain ⟨hcz53_0,hcz53_1,hcz53_2,hcz53_3,hcz53_4,hcz53_5,hcz53_6,hfz53_0,hfz53_1,hfz53_2,hfz53_3,hfz53_4,hfz53_5,hfz53_6⟩:=blkf7 BK176.out
                   have p185:0≤(x4_4:Int):=of_decide_eq_true (by first|(with_reducible assumption)|assumption)
                   have q185:x4_4<(l0_5.length:Int):=of_decide_eq_true (by first|(with_reducible assumption)|assumption)
                   obtain ⟨ad185,e185,hx185_0,hx185_1,hx185_2⟩:=at_T81 HR0_5.out x4_4 p185 q185
                   cases e185
                   replace hx185_0:=pw_cell_below HB.out hx185_0
                   replace hx185_1:=pw_cell_below HB.out hx185_1
                   replace hx185_2:=pw_cell_below HB.out hx185_2
                   replace p185:=eq_true p185
                   replace q185:=eq_true q185
                   try go_wp2_with (first|((with_reducible refine gate_callee (f:=52) rfl ?_);refine goesL_ (some 92) rfl rfl Try.func52 (by kernel_rfl) rfl #[.int .i64 ((rd_T81 l0_5 x4_4).f2),.int .i64 (-10000),.int .i64 10000] rfl (by (try simp only [List.map_toArray,List.map_cons,List.map_nil]);first|done|rfl|(simp only [List.length_drop,List.length_take];rfl)) ?_;(with_reducible refine (spec_l12In.calls ((rd_T81 l0_5 x4_4).f2) (-10000) 10000 true _ A43.out).mono ?_);rintro e w' ⟨rfl,⟨nd,rfl⟩⟩;refine ⟨_,rfl,?_⟩))
                   (try (rw [drewN_self wr];generalize hq_:World.drewN wr _=wr;have n0_:Aside0 (wr.heap[gb176]?=some (.cells #[.int .i64 a0_0,.int .i64 a0_1,.int .i64 a0_2,.int .i64 a0_3,.slice A0_4 l0_4.length c0_4,.slice (some ad185) l0_5.length c0_5,.slice A0_6 l0_6.length c0_6] 34 (0,0))):=⟨by rw [← hq_];exact (by (with_reducible repeat (first|refine blk_drewN ?_ _|refine blk_drew ?_|refine blk_alloc ?_ _));exact BK176.out)⟩;have n1_:Aside0 (Below w.heap.size w wr):=⟨by rw [← hq_];exact (by repeat (first|exact HB.out|apply below_alloc|apply pw_below_drewN|apply below_drew1|refine below_set ?_ GE176.out))⟩;clear BK176 HB hq_;have BK176:=n0_;have HB:=n1_;clear n0_ n1_))
                   have n0_:=Aside0.mk (blk_drew BK176.out)
                   have n1_:=Aside0.mk (below_drew1 HB.out)
                   clear BK176
                   clear HB
                   have BK176:=n0_
                   have HB:=n1_
                   clear n0_ n1_
                   have p187:0≤((ji46):Int):=of_decide_eq_true (by first|(with_reducible assumption)|assumption)
                   have q187:(ji46)<(l0_5.length:Int):=of_decide_eq_true (by first|(with_reducible assumption)|assumption)
                   obtain ⟨ad187,e187,hx187_0,hx187_1,hx187_2⟩:=at_T81 HR0_5.out (ji46) p187 q187
                   have hw187_2:=hx187_2
                   have hw187_1:=hx187_1
                   have hw187_0:=hx187_0
                   obtain rfl:ad185=ad187:=(by injection e187)
                   replace hx187_0:=pw_cell_below HB.out hx187_0
                   replace hx187_1:=pw_cell_below HB.out hx187_1
                   replace hx187_2:=pw_cell_below HB.out hx187_2
                   replace p187:=eq_true p187
                   replace q187:=eq_true q187
                   have p188:0≤((ji46):Int):=of_decide_eq_true (by first|(with_reducible assumption)|assumption)
                   have q188:(ji46)<(l0_5.length:Int):=of_decide_eq_true (by first|(with_reducible assumption)|assumption)
                   obtain ⟨ad188,e188,hx188_0,hx188_1,hx188_2⟩:=at_T81 HR0_5.out (ji46) p188 q188
                   have hw188_2:=hx188_2
                   have hw188_1:=hx188_1
                   have hw188_0:=hx188_0
                   obtain rfl:ad185=ad188:=(by injection e188)
                   replace hx188_0:=pw_cell_below HB.out hx188_0
                   replace hx188_1:=pw_cell_below HB.out hx188_1
                   replace hx188_2:=pw_cell_below HB.out hx188_2
                   replace p188:=eq_true p188
                   replace q188:=eq_true q188
                   have p189:0≤(x4_4:Int):=of_decide_eq_true (by first|(with_reducible assumption)|assumption)
                   have q189:x4_4<(l0_5.length:Int):=of_decide_eq_true (by first|(with_reducible assumption)|assumption)
                   obtain ⟨ad189,e189,hx189_0,hx189_1,hx189_2⟩:=at_T81 HR0_5.out x4_4 p189 q189
                   have hw189_2:=hx189_2
                   have hw189_1:=hx189_1
                   have hw189_0:=hx189_0
                   obtain rfl:ad185=ad189:=(by injection e189)
                   replace hx189_0:=pw_cell_below HB.out hx189_0
                   replace hx189_1:=pw_cell_below HB.out hx189_1
                   replace hx189_2:=pw_cell_below HB.out hx189_2
                   replace p189:=eq_true p189
                   replace q189:=eq_true q189
                   have p190:0≤(x4_4:Int):=of_decide_eq_true (by first|(with_reducible assumption)|assumption)
                   have q190:x4_4<(l0_5.length:Int):=of_decide_eq_true (by first|(with_reducible assumption)|assumption)
                   obtain ⟨ad190,e190,hx190_0,hx190_1,hx190_2⟩:=at_T81 HR0_5.out x4_4 p190 q190
                   have hw190_2:=hx190_2
                   have hw190_1:=hx190_1
                   have hw190_0:=hx190_0
                   obtain rfl:ad185=ad190:=(by injection e190)
                   replace hx190_0:=pw_cell_below HB.out hx190_0
                   replace hx190_1:=pw_cell_below HB.out hx190_1
                   replace hx190_2:=pw_cell_below HB.out hx190_2
                   replace p190:=eq_true p190
                   replace q190:=eq_true q190
                   refine start_ (n:=32) (S:=fun w'=>w'.cell? ⟨gb176,0,none⟩=some (.int .i64 a0_0)∧w'.cell? ⟨gb176,1,none⟩=some (.int .i64 a0_1)∧w'.cell? ⟨gb176,2,none⟩=some (.int .i64 a0_2)∧w'.cell? ⟨gb176,3,none⟩=some (.int .i64 a0_3)∧w'.cell? ⟨gb176,4,none⟩=some (.slice A0_4 l0_4.length c0_4)∧w'.cell? ⟨gb176,5,none⟩=some (.slice (some ad185) l0_5.length c0_5)∧w'.cell? ⟨gb176,6,none⟩=some (.slice A0_6 l0_6.length c0_6)∧w'.cell? (ad185.add (((ji46)).toNat*3))=some (.int .i64 ((rd_T81 l0_5 (ji46)).f0))∧w'.cell? ⟨(ad185.add (((ji46)).toNat*3)).block,(ad185.add (((ji46)).toNat*3)).off+1,none⟩=some (.int .i64 ((rd_T81 l0_5 (ji46)).f1))∧w'.cell? ⟨(ad185.add (((ji46)).toNat*3)).block,(ad185.add (((ji46)).toNat*3)).off+2,none⟩=some (.int .i64 ((rd_T81 l0_5 (ji46)).f2))∧w'.cell? (ad185.add (((ji46)).toNat*3))=some (.int .i64 ((rd_T81 l0_5 (ji46)).f0))∧w'.cell? ⟨(ad185.add (((ji46)).toNat*3)).block,(ad185.add (((ji46)).toNat*3)).off+1,none⟩=some (.int .i64 ((rd_T81 l0_5 (ji46)).f1))∧w'.cell? ⟨(ad185.add (((ji46)).toNat*3)).block,(ad185.add (((ji46)).toNat*3)).off+2,none⟩=some (.int .i64 ((rd_T81 l0_5 (ji46)).f2))∧w'.cell? (ad185.add ((x4_4).toNat*3))=some (.int .i64 ((rd_T81 l0_5 x4_4).f0))∧w'.cell? ⟨(ad185.add ((x4_4).toNat*3)).block,(ad185.add ((x4_4).toNat*3)).off+1,none⟩=some (.int .i64 ((rd_T81 l0_5 x4_4).f1))∧w'.cell? ⟨(ad185.add ((x4_4).toNat*3)).block,(ad185.add ((x4_4).toNat*3)).off+2,none⟩=some (.int .i64 ((rd_T81 l0_5 x4_4).f2))∧w'.cell? (ad185.add ((x4_4).toNat*3))=some (.int .i64 ((rd_T81 l0_5 x4_4).f0))∧w'.cell? ⟨(ad185.add ((x4_4).toNat*3)).block,(ad185.add ((x4_4).toNat*3)).off+1,none⟩=some (.int .i64 ((rd_T81 l0_5 x4_4).f1))∧w'.cell? ⟨(ad185.add ((x4_4).toNat*3)).block,(ad185.add ((x4_4).toNat*3)).off+2,none⟩=some (.int .i64 ((rd_T81 l0_5 x4_4).f2))) (ds:=[]) #[false,false,false,false,false,false,false,false,false,false,false,false,false,false,false,false,false,false,false,false,false,false,false,false,false,false,false,false,false,false,false,false] (by kernel_rfl) rfl rfl ⟨(blk_cell BK176.out 0).trans rfl,(blk_cell BK176.out 1).trans rfl,(blk_cell BK176.out 2).trans rfl,(blk_cell BK176.out 3).trans rfl,(blk_cell BK176.out 4).trans rfl,(blk_cell BK176.out 5).trans rfl,(blk_cell BK176.out 6).trans rfl,((HB.out.cell (World.block_lt_of_cell? w _ hw187_0)).trans hw187_0),((HB.out.cell (World.block_lt_of_cell? w _ hw187_1)).trans hw187_1),((HB.out.cell (World.block_lt_of_cell? w _ hw187_2)).trans hw187_2),((HB.out.cell (World.block_lt_of_cell? w _ hw188_0)).trans hw188_0),((HB.out.cell (World.block_lt_of_cell? w _ hw188_1)).trans hw188_1),((HB.out.cell (World.block_lt_of_cell? w _ hw188_2)).trans hw188_2),((HB.out.cell (World.block_lt_of_cell? w _ hw189_0)).trans hw189_0),((HB.out.cell (World.block_lt_of_cell? w _ hw189_1)).trans hw189_1),((HB.out.cell (World.block_lt_of_cell? w _ hw189_2)).trans hw189_2),((HB.out.cell (World.block_lt_of_cell? w _ hw190_0)).trans hw190_0),((HB.out.cell (World.block_lt_of_cell? w _ hw190_1)).trans hw190_1),((HB.out.cell (World.block_lt_of_cell? w _ hw190_2)).trans hw190_2)⟩ (fun hHeld=>?_);refine with_tabW spec_FontOk.tab15 spec_FontOk.bits15 (fun HT_ HW_=>?_)
                   generalize wr.drew=w54 at BK176 HB hx187_0 hx187_1 hx187_2 hx188_0 hx188_1 hx188_2 hx189_0 hx189_1 hx189_2 hx190_0 hx190_1 hx190_2 hHeld ⊢
                   refine pure_ (i:=0) (N:=some 94) (v:=?_) (a':=?_) #[true,false,false,false,false,false,false,false,false,false,false,false,false,false,false,false,false,false,false,false,false,false,false,false,false,false,false,false,false,false,false,false] rfl rfl (any_of HT_.out (by kernel_rfl)) (fun _ _ _ h=>h) (Or.inl ⟨by rfl,?_⟩) ?_ ?_
                   rotate_left
                   ·intro w'
                    go_simp
                    with_reducible rfl
                   rotate_left
                   ·simp only [Act.put,List.setIfInBounds_toArray,List.set_cons_zero,List.set_cons_succ,i64_w,i32_w]
                    rfl
                   refine pure_ (i:=1) (N:=some 95) (v:=?_) (a':=?_) #[true,true,false,false,false,false,false,false,false,false,false,false,false,false,false,false,false,false,false,false,false,false,false,false,false,false,false,false,false,false,false,false] rfl rfl (any_of HT_.out (by kernel_rfl)) (fun _ _ _ h=>h) (Or.inl ⟨by rfl,?_⟩) ?_ ?_
                   rotate_left
                   ·intro w'
                    go_simp
                    with_reducible rfl
                   rotate_left
                   ·simp only [Act.put,List.setIfInBounds_toArray,List.set_cons_zero,List.set_cons_succ,i64_w,i32_w]
                    rfl
                   refine pure_ (i:=2) (N:=some 96) (v:=?_) (a':=?_) #[true,true,true,false,false,false,false,false,false,false,false,false,false,false,false,false,false,false,false,false,false,false,false,false,false,false,false,false,false,false,false,false] rfl rfl (any_of HT_.out (by kernel_rfl)) (fun _ _ _ h=>h) (Or.inl ⟨by rfl,?_⟩) ?_ ?_
                   rotate_left
                   ·intro w'
                    go_simp
                    with_reducible rfl
                   rotate_left
                   ·simp only [Act.put,List.setIfInBounds_toArray,List.set_cons_zero,List.set_cons_succ,i64_w,i32_w]
                    rfl
                   refine pure_ (i:=3) (N:=some 97) (v:=?_) (a':=?_) #[true,true,true,true,false,false,false,false,false,false,false,false,false,false,false,false,false,false,false,false,false,false,false,false,false,false,false,false,false,false,false,false] rfl rfl (any_of HT_.out (by kernel_rfl)) (fun _ _ _ h=>h) (Or.inl ⟨by rfl,?_⟩) ?_ ?_
                   rotate_left
                   ·intro w'
                    go_simp
                    with_reducible rfl
                   rotate_left
                   ·simp only [Act.put,List.setIfInBounds_toArray,List.set_cons_zero,List.set_cons_succ,i64_w,i32_w]
                    rfl
                   refine pure_ (i:=5) (N:=some 99) (v:=?_) (a':=?_) #[true,true,true,true,false,true,false,false,false,false,false,false,false,false,false,false,false,false,false,false,false,false,false,false,false,false,false,false,false,false,false,false] rfl rfl (any_of HT_.out (by kernel_rfl)) (fun _ _ _ h=>h) (Or.inl ⟨by rfl,?_⟩) ?_ ?_
                   rotate_left
                   ·intro w'
                    go_simp
                    with_reducible rfl
                   rotate_left
                   ·simp only [Act.put,List.setIfInBounds_toArray,List.set_cons_zero,List.set_cons_succ,i64_w,i32_w]
                    rfl
                   refine pure_ (i:=6) (N:=some 100) (v:=?_) (a':=?_) #[true,true,true,true,false,true,true,false,false,false,false,false,false,false,false,false,false,false,false,false,false,false,false,false,false,false,false,false,false,false,false,false] rfl rfl (any_of HT_.out (by kernel_rfl)) (fun _ _ _ h=>h) (Or.inl ⟨by rfl,?_⟩) ?_ ?_
                   rotate_left
                   ·intro w'
                    go_simp
                    with_reducible rfl
                   rotate_left
                   ·simp only [Act.put,List.setIfInBounds_toArray,List.set_cons_zero,List.set_cons_succ,i64_w,i32_w]
                    rfl
                   refine pure_ (i:=10) (N:=some 104) (v:=?_) (a':=?_) #[true,true,true,true,false,true,true,false,false,false,true,false,false,false,false,false,false,false,false,false,false,false,false,false,false,false,false,false,false,false,false,false] rfl rfl (any_of HT_.out (by kernel_rfl)) (fun _ _ _ h=>h) (Or.inl ⟨by rfl,?_⟩) ?_ ?_
                   rotate_left
                   ·intro w'
                    go_simp
                    with_reducible rfl
                   rotate_left
                   ·simp only [Act.put,List.setIfInBounds_toArray,List.set_cons_zero,List.set_cons_succ,i64_w,i32_w]
                    rfl
                   refine pure_ (i:=12) (N:=some 106) (v:=?_) (a':=?_) #[true,true,true,true,false,true,true,false,false,false,true,false,true,false,false,false,false,false,false,false,false,false,false,false,false,false,false,false,false,false,false,false] rfl rfl (any_of HT_.out (by kernel_rfl)) (fun _ _ _ h=>h) (Or.inl ⟨by rfl,?_⟩) ?_ ?_
                   rotate_left
                   ·intro w'
                    go_simp
                    with_reducible rfl
                   rotate_left
                   ·simp only [Act.put,List.setIfInBounds_toArray,List.set_cons_zero,List.set_cons_succ,i64_w,i32_w]
                    rfl
                   refine pure_ (i:=13) (N:=some 107) (v:=?_) (a':=?_) #[true,true,true,true,false,true,true,false,false,false,true,false,true,true,false,false,false,false,false,false,false,false,false,false,false,false,false,false,false,false,false,false] rfl rfl (any_of HT_.out (by kernel_rfl)) (fun _ _ _ h=>h) (Or.inl ⟨by rfl,?_⟩) ?_ ?_
                   rotate_left
                   ·intro w'
                    go_simp
                    with_reducible rfl
                   rotate_left
                   ·simp only [Act.put,List.setIfInBounds_toArray,List.set_cons_zero,List.set_cons_succ,i64_w,i32_w]
                    rfl
                   refine pure_ (i:=17) (N:=some 111) (v:=?_) (a':=?_) #[true,true,true,true,false,true,true,false,false,false,true,false,true,true,false,false,false,true,false,false,false,false,false,false,false,false,false,false,false,false,false,false] rfl rfl (any_of HT_.out (by kernel_rfl)) (fun _ _ _ h=>h) (Or.inl ⟨by rfl,?_⟩) ?_ ?_
                   rotate_left
                   ·intro w'
                    go_simp
                    with_reducible rfl
                   rotate_left
                   ·simp only [Act.put,List.setIfInBounds_toArray,List.set_cons_zero,List.set_cons_succ,i64_w,i32_w]
                    rfl
                   refine pure_ (i:=19) (N:=some 113) (v:=?_) (a':=?_) #[true,true,true,true,false,true,true,false,false,false,true,false,true,true,false,false,false,true,false,true,false,false,false,false,false,false,false,false,false,false,false,false] rfl rfl (any_of HT_.out (by kernel_rfl)) (fun _ _ _ h=>h) (Or.inl ⟨by rfl,?_⟩) ?_ ?_
                   rotate_left
                   ·intro w'
                    go_simp
                    with_reducible rfl
                   rotate_left
                   ·simp only [Act.put,List.setIfInBounds_toArray,List.set_cons_zero,List.set_cons_succ,i64_w,i32_w]
                    rfl
                   refine pure_ (i:=23) (N:=some 117) (v:=?_) (a':=?_) #[true,true,true,true,false,true,true,false,false,false,true,false,true,true,false,false,false,true,false,true,false,false,false,true,false,false,false,false,false,false,false,false] rfl rfl (any_of HT_.out (by kernel_rfl)) (fun _ _ _ h=>h) (Or.inl ⟨by rfl,?_⟩) ?_ ?_
                   rotate_left
                   ·intro w'
                    go_simp
                    with_reducible rfl
                   rotate_left
                   ·simp only [Act.put,List.setIfInBounds_toArray,List.set_cons_zero,List.set_cons_succ,i64_w,i32_w]
                    rfl
                   refine pure_ (i:=25) (N:=some 119) (v:=?_) (a':=?_) #[true,true,true,true,false,true,true,false,false,false,true,false,true,true,false,false,false,true,false,true,false,false,false,true,false,true,false,false,false,false,false,false] rfl rfl (any_of HT_.out (by kernel_rfl)) (fun _ _ _ h=>h) (Or.inl ⟨by rfl,?_⟩) ?_ ?_
                   rotate_left
                   ·intro w'
                    go_simp
                    with_reducible rfl
                   rotate_left
                   ·simp only [Act.put,List.setIfInBounds_toArray,List.set_cons_zero,List.set_cons_succ,i64_w,i32_w]
                    rfl
                   refine take_ (i:=4) (N:=some 98) (v:=?_) (a':=?_) #[true,true,true,true,true,true,true,false,false,false,true,false,true,true,false,false,false,true,false,true,false,false,false,true,false,true,false,false,false,false,false,false] rfl rfl (take_ofW HT_.out HW_.out (by kernel_rfl)) (fun _ _ _ h=>h) (Or.inl ⟨by rfl,?_⟩) hHeld ?_ ?_
                   rotate_left
                   ·rintro w' ⟨s0,s1,s2,s3,s4,s5,s6,s7,s8,s9,s10,s11,s12,s13,s14,s15,s16,s17,s18⟩
                    go_simp
                    with_reducible rfl
                   rotate_left
                   ·simp only [Act.put,List.setIfInBounds_toArray,List.set_cons_zero,List.set_cons_succ,i64_w,i32_w]
                    rfl
                   refine pure_ (i:=7) (N:=some 101) (v:=?_) (a':=?_) #[true,true,true,true,true,true,true,true,false,false,true,false,true,true,false,false,false,true,false,true,false,false,false,true,false,true,false,false,false,false,false,false] rfl rfl (any_of HT_.out (by kernel_rfl)) (fun _ _ _ h=>h) (Or.inl ⟨by rfl,?_⟩) ?_ ?_
                   rotate_left
                   ·intro w'
                    go_simp
                    with_reducible rfl
                   rotate_left
                   ·simp only [Act.put,List.setIfInBounds_toArray,List.set_cons_zero,List.set_cons_succ,i64_w,i32_w]
                    rfl
                   refine pure_ (i:=8) (N:=some 102) (v:=?_) (a':=?_) #[true,true,true,true,true,true,true,true,true,false,true,false,true,true,false,false,false,true,false,true,false,false,false,true,false,true,false,false,false,false,false,false] rfl rfl (any_of HT_.out (by kernel_rfl)) (fun _ _ _ h=>h) (Or.inl ⟨by rfl,?_⟩) ?_ ?_
                   rotate_left
                   ·intro w'
                    go_simp
                    with_reducible rfl
                   rotate_left
                   ·simp only [Act.put,List.setIfInBounds_toArray,List.set_cons_zero,List.set_cons_succ,i64_w,i32_w]
                    rfl
                   refine take_ (i:=9) (N:=some 103) (v:=?_) (a':=?_) #[true,true,true,true,true,true,true,true,true,true,true,false,true,true,false,false,false,true,false,true,false,false,false,true,false,true,false,false,false,false,false,false] rfl rfl (take_ofW HT_.out HW_.out (by kernel_rfl)) (fun _ _ _ h=>h) (Or.inl ⟨by rfl,?_⟩) hHeld ?_ ?_
                   rotate_left
                   ·rintro w' ⟨s0,s1,s2,s3,s4,s5,s6,s7,s8,s9,s10,s11,s12,s13,s14,s15,s16,s17,s18⟩
                    go_simp
                    with_reducible rfl
                   rotate_left
                   ·simp only [Act.put,List.setIfInBounds_toArray,List.set_cons_zero,List.set_cons_succ,i64_w,i32_w]
                    rfl
                   refine take_ (i:=11) (N:=some 105) (v:=?_) (a':=?_) #[true,true,true,true,true,true,true,true,true,true,true,true,true,true,false,false,false,true,false,true,false,false,false,true,false,true,false,false,false,false,false,false] rfl rfl (take_ofW HT_.out HW_.out (by kernel_rfl)) (fun _ _ _ h=>h) (Or.inl ⟨by rfl,?_⟩) hHeld ?_ ?_
                   rotate_left
                   ·rintro w' ⟨s0,s1,s2,s3,s4,s5,s6,s7,s8,s9,s10,s11,s12,s13,s14,s15,s16,s17,s18⟩
                    go_simp
                    with_reducible rfl
                   rotate_left
                   ·simp only [Act.put,List.setIfInBounds_toArray,List.set_cons_zero,List.set_cons_succ,i64_w,i32_w]
                    rfl
                   refine pure_ (i:=14) (N:=some 108) (v:=?_) (a':=?_) #[true,true,true,true,true,true,true,true,true,true,true,true,true,true,true,false,false,true,false,true,false,false,false,true,false,true,false,false,false,false,false,false] rfl rfl (any_of HT_.out (by kernel_rfl)) (fun _ _ _ h=>h) (Or.inl ⟨by rfl,?_⟩) ?_ ?_
                   rotate_left
                   ·intro w'
                    go_simp
                    with_reducible rfl
                   rotate_left
                   ·simp only [Act.put,List.setIfInBounds_toArray,List.set_cons_zero,List.set_cons_succ,i64_w,i32_w]
                    rfl
                   refine pure_ (i:=15) (N:=some 109) (v:=?_) (a':=?_) #[true,true,true,true,true,true,true,true,true,true,true,true,true,true,true,true,false,true,false,true,false,false,false,true,false,true,false,false,false,false,false,false] rfl rfl (any_of HT_.out (by kernel_rfl)) (fun _ _ _ h=>h) (Or.inl ⟨by rfl,?_⟩) ?_ ?_
                   rotate_left
                   ·intro w'
                    go_simp
                    with_reducible rfl
                   rotate_left
                   ·simp only [Act.put,List.setIfInBounds_toArray,List.set_cons_zero,List.set_cons_succ,i64_w,i32_w]
                    rfl
                   refine take_ (i:=16) (N:=some 110) (v:=?_) (a':=?_) #[true,true,true,true,true,true,true,true,true,true,true,true,true,true,true,true,true,true,false,true,false,false,false,true,false,true,false,false,false,false,false,false] rfl rfl (take_ofW HT_.out HW_.out (by kernel_rfl)) (fun _ _ _ h=>h) (Or.inl ⟨by rfl,?_⟩) hHeld ?_ ?_
                   rotate_left
                   ·rintro w' ⟨s0,s1,s2,s3,s4,s5,s6,s7,s8,s9,s10,s11,s12,s13,s14,s15,s16,s17,s18⟩
                    go_simp
                    with_reducible rfl
                   rotate_left
                   ·simp only [Act.put,List.setIfInBounds_toArray,List.set_cons_zero,List.set_cons_succ,i64_w,i32_w]
                    rfl
                   refine take_ (i:=18) (N:=some 112) (v:=?_) (a':=?_) #[true,true,true,true,true,true,true,true,true,true,true,true,true,true,true,true,true,true,true,true,false,false,false,true,false,true,false,false,false,false,false,false] rfl rfl (take_ofW HT_.out HW_.out (by kernel_rfl)) (fun _ _ _ h=>h) (Or.inl ⟨by rfl,?_⟩) hHeld ?_ ?_
                   rotate_left
                   ·rintro w' ⟨s0,s1,s2,s3,s4,s5,s6,s7,s8,s9,s10,s11,s12,s13,s14,s15,s16,s17,s18⟩
                    go_simp
                    with_reducible rfl
                   rotate_left
                   ·simp only [Act.put,List.setIfInBounds_toArray,List.set_cons_zero,List.set_cons_succ,i64_w,i32_w]
                    rfl
                   refine pure_ (i:=20) (N:=some 114) (v:=?_) (a':=?_) #[true,true,true,true,true,true,true,true,true,true,true,true,true,true,true,true,true,true,true,true,true,false,false,true,false,true,false,false,false,false,false,false] rfl rfl (any_of HT_.out (by kernel_rfl)) (fun _ _ _ h=>h) (Or.inl ⟨by rfl,?_⟩) ?_ ?_
                   rotate_left
                   ·intro w'
                    go_simp
                    with_reducible rfl
                   rotate_left
                   ·simp only [Act.put,List.setIfInBounds_toArray,List.set_cons_zero,List.set_cons_succ,i64_w,i32_w]
                    rfl
                   refine pure_ (i:=21) (N:=some 115) (v:=?_) (a':=?_) #[true,true,true,true,true,true,true,true,true,true,true,true,true,true,true,true,true,true,true,true,true,true,false,true,false,true,false,false,false,false,false,false] rfl rfl (any_of HT_.out (by kernel_rfl)) (fun _ _ _ h=>h) (Or.inl ⟨by rfl,?_⟩) ?_ ?_
                   rotate_left
                   ·intro w'
                    go_simp
                    with_reducible rfl
                   rotate_left
                   ·simp only [Act.put,List.setIfInBounds_toArray,List.set_cons_zero,List.set_cons_succ,i64_w,i32_w]
                    rfl
                   refine take_ (i:=22) (N:=some 116) (v:=?_) (a':=?_) #[true,true,true,true,true,true,true,true,true,true,true,true,true,true,true,true,true,true,true,true,true,true,true,true,false,true,false,false,false,false,false,false] rfl rfl (take_ofW HT_.out HW_.out (by kernel_rfl)) (fun _ _ _ h=>h) (Or.inl ⟨by rfl,?_⟩) hHeld ?_ ?_
                   rotate_left
                   ·rintro w' ⟨s0,s1,s2,s3,s4,s5,s6,s7,s8,s9,s10,s11,s12,s13,s14,s15,s16,s17,s18⟩
                    go_simp
                    with_reducible rfl
                   rotate_left
                   ·simp only [Act.put,List.setIfInBounds_toArray,List.set_cons_zero,List.set_cons_succ,i64_w,i32_w]
                    rfl
                   refine take_ (i:=24) (N:=some 118) (v:=?_) (a':=?_) #[true,true,true,true,true,true,true,true,true,true,true,true,true,true,true,true,true,true,true,true,true,true,true,true,true,true,false,false,false,false,false,false] rfl rfl (take_ofW HT_.out HW_.out (by kernel_rfl)) (fun _ _ _ h=>h) (Or.inl ⟨by rfl,?_⟩) hHeld ?_ ?_
                   rotate_left
                   ·rintro w' ⟨s0,s1,s2,s3,s4,s5,s6,s7,s8,s9,s10,s11,s12,s13,s14,s15,s16,s17,s18⟩
                    go_simp
                    with_reducible rfl
                   rotate_left
                   ·simp only [Act.put,List.setIfInBounds_toArray,List.set_cons_zero,List.set_cons_succ,i64_w,i32_w]
                    rfl
                   refine pure_ (i:=26) (N:=some 120) (v:=?_) (a':=?_) #[true,true,true,true,true,true,true,true,true,true,true,true,true,true,true,true,true,true,true,true,true,true,true,true,true,true,true,false,false,false,false,false] rfl rfl (any_of HT_.out (by kernel_rfl)) (fun _ _ _ h=>h) (Or.inl ⟨by rfl,?_⟩) ?_ ?_
                   rotate_left
                   ·intro w'
                    go_simp
                    with_reducible rfl
                   rotate_left
                   ·simp only [Act.put,List.setIfInBounds_toArray,List.set_cons_zero,List.set_cons_succ,i64_w,i32_w]
                    rfl
                   refine pure_ (i:=27) (N:=some 121) (v:=?_) (a':=?_) #[true,true,true,true,true,true,true,true,true,true,true,true,true,true,true,true,true,true,true,true,true,true,true,true,true,true,true,true,false,false,false,false] rfl rfl (any_of HT_.out (by kernel_rfl)) (fun _ _ _ h=>h) (Or.inl ⟨by rfl,?_⟩) ?_ ?_
                   rotate_left
                   ·intro w'
                    go_simp
                    with_reducible rfl
                   rotate_left
                   ·simp only [Act.put,List.setIfInBounds_toArray,List.set_cons_zero,List.set_cons_succ,i64_w,i32_w]
                    rfl
                   refine take_ (i:=28) (N:=some 122) (v:=?_) (a':=?_) #[true,true,true,true,true,true,true,true,true,true,true,true,true,true,true,true,true,true,true,true,true,true,true,true,true,true,true,true,true,false,false,false] rfl rfl (take_ofW HT_.out HW_.out (by kernel_rfl)) (fun _ _ _ h=>h) (Or.inl ⟨by rfl,?_⟩) hHeld ?_ ?_
                   rotate_left
                   ·rintro w' ⟨s0,s1,s2,s3,s4,s5,s6,s7,s8,s9,s10,s11,s12,s13,s14,s15,s16,s17,s18⟩
                    go_simp
                    with_reducible rfl
                   rotate_left
                   ·simp only [Act.put,List.setIfInBounds_toArray,List.set_cons_zero,List.set_cons_succ,i64_w,i32_w]
                    rfl
                   refine one_ (i:=29) (N:=some 123) #[true,true,true,true,true,true,true,true,true,true,true,true,true,true,true,true,true,true,true,true,true,true,true,true,true,true,true,true,true,true,false,false] rfl rfl (one_of HT_.out (by kernel_rfl)) (by decide) (fun K hK=>?_)
                   refine goes_ Try.func53 (by kernel_rfl) rfl #[.int .i64 ((rd_T81 l0_5 (ji46)).f0),.int .i64 ((rd_T81 l0_5 (ji46)).f1),.int .i64 ((rd_T81 l0_5 x4_4).f0),.int .i64 ((rd_T81 l0_5 x4_4).f1)] (by rfl) rfl rfl (by (try simp only [List.map_toArray,List.map_cons,List.map_nil]);first|done|(simp only [hji46];rfl)|rfl|(simp only [List.length_drop,List.length_take];rfl)) ?_
                   with_reducible refine (spec_l12Less.calls ((rd_T81 l0_5 (ji46)).f0) ((rd_T81 l0_5 (ji46)).f1) ((rd_T81 l0_5 x4_4).f0) ((rd_T81 l0_5 x4_4).f1) false _ A49.out).mono ?_
                   rintro e w' ⟨rfl,⟨nd,rfl⟩⟩
                   refine ⟨_,rfl,?_⟩
                   refine hK.out _ _ ⟨(blk_cell BK176.out 0).trans rfl,(blk_cell BK176.out 1).trans rfl,(blk_cell BK176.out 2).trans rfl,(blk_cell BK176.out 3).trans rfl,(blk_cell BK176.out 4).trans rfl,(blk_cell BK176.out 5).trans rfl,(blk_cell BK176.out 6).trans rfl,((HB.out.cell (World.block_lt_of_cell? w _ hw187_0)).trans hw187_0),((HB.out.cell (World.block_lt_of_cell? w _ hw187_1)).trans hw187_1),((HB.out.cell (World.block_lt_of_cell? w _ hw187_2)).trans hw187_2),((HB.out.cell (World.block_lt_of_cell? w _ hw188_0)).trans hw188_0),((HB.out.cell (World.block_lt_of_cell? w _ hw188_1)).trans hw188_1),((HB.out.cell (World.block_lt_of_cell? w _ hw188_2)).trans hw188_2),((HB.out.cell (World.block_lt_of_cell? w _ hw189_0)).trans hw189_0),((HB.out.cell (World.block_lt_of_cell? w _ hw189_1)).trans hw189_1),((HB.out.cell (World.block_lt_of_cell? w _ hw189_2)).trans hw189_2),((HB.out.cell (World.block_lt_of_cell? w _ hw190_0)).trans hw190_0),((HB.out.cell (World.block_lt_of_cell? w _ hw190_1)).trans hw190_1),((HB.out.cell (World.block_lt_of_cell? w _ hw190_2)).trans hw190_2)⟩ (fun hHeld=>?_)
                   clear hK K
                   refine norm_ (a':=?_) ?_ ?_
                   rotate_left
                   ·show Act.put _ (some 123) _=_
                    simp only [Act.put,List.setIfInBounds_toArray,List.set_cons_zero,List.set_cons_succ,i64_w,i32_w]
                    rfl
                   refine pure_ (i:=30) (N:=some 124) (v:=?_) (a':=?_) #[true,true,true,true,true,true,true,true,true,true,true,true,true,true,true,true,true,true,true,true,true,true,true,true,true,true,true,true,true,true,true,false] rfl rfl (any_of HT_.out (by kernel_rfl)) (fun _ _ _ h=>h) (Or.inl ⟨by rfl,?_⟩) ?_ ?_
                   rotate_left
                   ·intro w'
                    go_simp
                    with_reducible rfl
                   rotate_left
                   ·simp only [Act.put,List.setIfInBounds_toArray,List.set_cons_zero,List.set_cons_succ,i64_w,i32_w]
                    rfl
                   refine pure_ (i:=31) (N:=some 125) (v:=?_) (a':=?_) #[true,true,true,true,true,true,true,true,true,true,true,true,true,true,true,true,true,true,true,true,true,true,true,true,true,true,true,true,true,true,true,true] rfl rfl (any_of HT_.out (by kernel_rfl)) (fun _ _ _ h=>h) (Or.inl ⟨by rfl,?_⟩) ?_ ?_
                   rotate_left
                   ·intro w'
                    go_simp
                    with_reducible rfl
                   rotate_left
                   ·simp only [Act.put,List.setIfInBounds_toArray,List.set_cons_zero,List.set_cons_succ,i64_w,i32_w]
                    rfl
                   refine done_ (done_of HT_.out (by kernel_rfl)) ?_
                   try go_wp2
                   go_ret
                   exact ⟨by first|rfl|(simp [errW_none,errW_some]<;>rfl)|(simp only [← hji46];first|rfl|(simp [errW_none,errW_some]<;>rfl))|(simp [*,errW_none,errW_some]<;>rfl),by repeat (first|exact HB.out|apply below_alloc|apply pw_below_drewN|apply below_drew1|refine below_set ?_ GE176.out)⟩
                 ·rw [if_neg c48] at H
                  exact absurd H (by simp)
                ·rw [if_neg c47] at H
                 exact absurd H (by simp)
               ·rw [if_neg c45] at H
                have c45b0:decide (0<x4_4)=false:=decide_eq_false c45
                clear c45
                have H':=Aside0.mk H
                clear H
                obtain ⟨hcz55_0,hcz55_1,hcz55_2,hcz55_3,hcz55_4,hcz55_5,hcz55_6,hfz55_0,hfz55_1,hfz55_2,hfz55_3,hfz55_4,hfz55_5,hfz55_6⟩:=blkf7 BK176.out
                have p185:0≤(x4_4:Int):=of_decide_eq_true (by first|(with_reducible assumption)|assumption)
                have q185:x4_4<(l0_5.length:Int):=of_decide_eq_true (by first|(with_reducible assumption)|assumption)
                obtain ⟨ad185,e185,hx185_0,hx185_1,hx185_2⟩:=at_T81 HR0_5.out x4_4 p185 q185
                cases e185
                replace hx185_0:=pw_cell_below HB.out hx185_0
                replace hx185_1:=pw_cell_below HB.out hx185_1
                replace hx185_2:=pw_cell_below HB.out hx185_2
                replace p185:=eq_true p185
                replace q185:=eq_true q185
                try go_wp2_with (first|((with_reducible refine gate_callee (f:=52) rfl ?_);refine goesL_ (some 92) rfl rfl Try.func52 (by kernel_rfl) rfl #[.int .i64 ((rd_T81 l0_5 x4_4).f2),.int .i64 (-10000),.int .i64 10000] rfl (by (try simp only [List.map_toArray,List.map_cons,List.map_nil]);first|done|rfl|(simp only [List.length_drop,List.length_take];rfl)) ?_;(with_reducible refine (spec_l12In.calls ((rd_T81 l0_5 x4_4).f2) (-10000) 10000 true _ A43.out).mono ?_);rintro e w' ⟨rfl,⟨nd,rfl⟩⟩;refine ⟨_,rfl,?_⟩))
                (try (rw [drewN_self wr];generalize hq_:World.drewN wr _=wr;have n0_:Aside0 (wr.heap[gb176]?=some (.cells #[.int .i64 a0_0,.int .i64 a0_1,.int .i64 a0_2,.int .i64 a0_3,.slice A0_4 l0_4.length c0_4,.slice (some ad185) l0_5.length c0_5,.slice A0_6 l0_6.length c0_6] 34 (0,0))):=⟨by rw [← hq_];exact (by (with_reducible repeat (first|refine blk_drewN ?_ _|refine blk_drew ?_|refine blk_alloc ?_ _));exact BK176.out)⟩;have n1_:Aside0 (Below w.heap.size w wr):=⟨by rw [← hq_];exact (by repeat (first|exact HB.out|apply below_alloc|apply pw_below_drewN|apply below_drew1|refine below_set ?_ GE176.out))⟩;clear BK176 HB hq_;have BK176:=n0_;have HB:=n1_;clear n0_ n1_))
                have n0_:=Aside0.mk (blk_drew BK176.out)
                have n1_:=Aside0.mk (below_drew1 HB.out)
                clear BK176
                clear HB
                have BK176:=n0_
                have HB:=n1_
                clear n0_ n1_
                refine start_ (n:=32) (S:=fun w'=>True) (ds:=[]) #[false,false,false,false,false,false,false,false,false,false,false,false,false,false,false,false,false,false,false,false,false,false,false,false,false,false,false,false,false,false,false,false] (by kernel_rfl) rfl rfl trivial (fun hHeld=>?_);refine with_tabW spec_FontOk.tab15 spec_FontOk.bits15 (fun HT_ HW_=>?_)
                generalize wr.drew=w56 at BK176 HB hHeld ⊢
                refine pure_ (i:=0) (N:=some 94) (v:=?_) (a':=?_) #[true,false,false,false,false,false,false,false,false,false,false,false,false,false,false,false,false,false,false,false,false,false,false,false,false,false,false,false,false,false,false,false] rfl rfl (any_of HT_.out (by kernel_rfl)) (fun _ _ _ h=>h) (Or.inl ⟨by rfl,?_⟩) ?_ ?_
                rotate_left
                ·intro w'
                 go_simp
                 with_reducible rfl
                rotate_left
                ·simp only [Act.put,List.setIfInBounds_toArray,List.set_cons_zero,List.set_cons_succ,i64_w,i32_w]
                 rfl
                refine pure_ (i:=1) (N:=some 95) (v:=?_) (a':=?_) #[true,true,false,false,false,false,false,false,false,false,false,false,false,false,false,false,false,false,false,false,false,false,false,false,false,false,false,false,false,false,false,false] rfl rfl (any_of HT_.out (by kernel_rfl)) (fun _ _ _ h=>h) (Or.inl ⟨by rfl,?_⟩) ?_ ?_
                rotate_left
                ·intro w'
                 go_simp
                 with_reducible rfl
                rotate_left
                ·simp only [Act.put,List.setIfInBounds_toArray,List.set_cons_zero,List.set_cons_succ,i64_w,i32_w]
                 rfl
                refine pure_ (i:=2) (N:=some 96) (v:=?_) (a':=?_) #[true,true,true,false,false,false,false,false,false,false,false,false,false,false,false,false,false,false,false,false,false,false,false,false,false,false,false,false,false,false,false,false] rfl rfl (any_of HT_.out (by kernel_rfl)) (fun _ _ _ h=>h) (Or.inl ⟨by rfl,?_⟩) ?_ ?_
                rotate_left
                ·intro w'
                 go_simp
                 with_reducible rfl
                rotate_left
                ·simp only [Act.put,List.setIfInBounds_toArray,List.set_cons_zero,List.set_cons_succ,i64_w,i32_w]
                 rfl
                refine pure_ (i:=3) (N:=some 97) (v:=undef) (a':=?_) #[true,true,true,true,false,false,false,false,false,false,false,false,false,false,false,false,false,false,false,false,false,false,false,false,false,false,false,false,false,false,false,false] rfl rfl (any_of HT_.out (by kernel_rfl)) (fun _ _ _ h=>h) (Or.inr ⟨by rfl,rfl⟩) ?_ ?_
                rotate_left
                ·simp only [Act.put,List.setIfInBounds_toArray,List.set_cons_zero,List.set_cons_succ,i64_w,i32_w]
                 rfl
                refine pure_ (i:=4) (N:=some 98) (v:=undef) (a':=?_) #[true,true,true,true,true,false,false,false,false,false,false,false,false,false,false,false,false,false,false,false,false,false,false,false,false,false,false,false,false,false,false,false] rfl rfl (any_of HT_.out (by kernel_rfl)) (fun _ _ _ h=>h) (Or.inr ⟨by rfl,rfl⟩) ?_ ?_
                rotate_left
                ·simp only [Act.put,List.setIfInBounds_toArray,List.set_cons_zero,List.set_cons_succ,i64_w,i32_w]
                 rfl
                refine pure_ (i:=5) (N:=some 99) (v:=undef) (a':=?_) #[true,true,true,true,true,true,false,false,false,false,false,false,false,false,false,false,false,false,false,false,false,false,false,false,false,false,false,false,false,false,false,false] rfl rfl (any_of HT_.out (by kernel_rfl)) (fun _ _ _ h=>h) (Or.inr ⟨by rfl,rfl⟩) ?_ ?_
                rotate_left
                ·simp only [Act.put,List.setIfInBounds_toArray,List.set_cons_zero,List.set_cons_succ,i64_w,i32_w]
                 rfl
                refine pure_ (i:=6) (N:=some 100) (v:=undef) (a':=?_) #[true,true,true,true,true,true,true,false,false,false,false,false,false,false,false,false,false,false,false,false,false,false,false,false,false,false,false,false,false,false,false,false] rfl rfl (any_of HT_.out (by kernel_rfl)) (fun _ _ _ h=>h) (Or.inr ⟨by rfl,rfl⟩) ?_ ?_
                rotate_left
                ·simp only [Act.put,List.setIfInBounds_toArray,List.set_cons_zero,List.set_cons_succ,i64_w,i32_w]
                 rfl
                refine pure_ (i:=7) (N:=some 101) (v:=undef) (a':=?_) #[true,true,true,true,true,true,true,true,false,false,false,false,false,false,false,false,false,false,false,false,false,false,false,false,false,false,false,false,false,false,false,false] rfl rfl (any_of HT_.out (by kernel_rfl)) (fun _ _ _ h=>h) (Or.inr ⟨by rfl,rfl⟩) ?_ ?_
                rotate_left
                ·simp only [Act.put,List.setIfInBounds_toArray,List.set_cons_zero,List.set_cons_succ,i64_w,i32_w]
                 rfl
                refine pure_ (i:=8) (N:=some 102) (v:=undef) (a':=?_) #[true,true,true,true,true,true,true,true,true,false,false,false,false,false,false,false,false,false,false,false,false,false,false,false,false,false,false,false,false,false,false,false] rfl rfl (any_of HT_.out (by kernel_rfl)) (fun _ _ _ h=>h) (Or.inr ⟨by rfl,rfl⟩) ?_ ?_
                rotate_left
                ·simp only [Act.put,List.setIfInBounds_toArray,List.set_cons_zero,List.set_cons_succ,i64_w,i32_w]
                 rfl
                refine pure_ (i:=9) (N:=some 103) (v:=undef) (a':=?_) #[true,true,true,true,true,true,true,true,true,true,false,false,false,false,false,false,false,false,false,false,false,false,false,false,false,false,false,false,false,false,false,false] rfl rfl (any_of HT_.out (by kernel_rfl)) (fun _ _ _ h=>h) (Or.inr ⟨by rfl,rfl⟩) ?_ ?_
                rotate_left
                ·simp only [Act.put,List.setIfInBounds_toArray,List.set_cons_zero,List.set_cons_succ,i64_w,i32_w]
                 rfl
                refine pure_ (i:=10) (N:=some 104) (v:=undef) (a':=?_) #[true,true,true,true,true,true,true,true,true,true,true,false,false,false,false,false,false,false,false,false,false,false,false,false,false,false,false,false,false,false,false,false] rfl rfl (any_of HT_.out (by kernel_rfl)) (fun _ _ _ h=>h) (Or.inr ⟨by rfl,rfl⟩) ?_ ?_
                rotate_left
                ·simp only [Act.put,List.setIfInBounds_toArray,List.set_cons_zero,List.set_cons_succ,i64_w,i32_w]
                 rfl
                refine pure_ (i:=11) (N:=some 105) (v:=undef) (a':=?_) #[true,true,true,true,true,true,true,true,true,true,true,true,false,false,false,false,false,false,false,false,false,false,false,false,false,false,false,false,false,false,false,false] rfl rfl (any_of HT_.out (by kernel_rfl)) (fun _ _ _ h=>h) (Or.inr ⟨by rfl,rfl⟩) ?_ ?_
                rotate_left
                ·simp only [Act.put,List.setIfInBounds_toArray,List.set_cons_zero,List.set_cons_succ,i64_w,i32_w]
                 rfl
                refine pure_ (i:=12) (N:=some 106) (v:=undef) (a':=?_) #[true,true,true,true,true,true,true,true,true,true,true,true,true,false,false,false,false,false,false,false,false,false,false,false,false,false,false,false,false,false,false,false] rfl rfl (any_of HT_.out (by kernel_rfl)) (fun _ _ _ h=>h) (Or.inr ⟨by rfl,rfl⟩) ?_ ?_
                rotate_left
                ·simp only [Act.put,List.setIfInBounds_toArray,List.set_cons_zero,List.set_cons_succ,i64_w,i32_w]
                 rfl
                refine pure_ (i:=13) (N:=some 107) (v:=undef) (a':=?_) #[true,true,true,true,true,true,true,true,true,true,true,true,true,true,false,false,false,false,false,false,false,false,false,false,false,false,false,false,false,false,false,false] rfl rfl (any_of HT_.out (by kernel_rfl)) (fun _ _ _ h=>h) (Or.inr ⟨by rfl,rfl⟩) ?_ ?_
                rotate_left
                ·simp only [Act.put,List.setIfInBounds_toArray,List.set_cons_zero,List.set_cons_succ,i64_w,i32_w]
                 rfl
                refine pure_ (i:=14) (N:=some 108) (v:=undef) (a':=?_) #[true,true,true,true,true,true,true,true,true,true,true,true,true,true,true,false,false,false,false,false,false,false,false,false,false,false,false,false,false,false,false,false] rfl rfl (any_of HT_.out (by kernel_rfl)) (fun _ _ _ h=>h) (Or.inr ⟨by rfl,rfl⟩) ?_ ?_
                rotate_left
                ·simp only [Act.put,List.setIfInBounds_toArray,List.set_cons_zero,List.set_cons_succ,i64_w,i32_w]
                 rfl
                refine pure_ (i:=15) (N:=some 109) (v:=undef) (a':=?_) #[true,true,true,true,true,true,true,true,true,true,true,true,true,true,true,true,false,false,false,false,false,false,false,false,false,false,false,false,false,false,false,false] rfl rfl (any_of HT_.out (by kernel_rfl)) (fun _ _ _ h=>h) (Or.inr ⟨by rfl,rfl⟩) ?_ ?_
                rotate_left
                ·simp only [Act.put,List.setIfInBounds_toArray,List.set_cons_zero,List.set_cons_succ,i64_w,i32_w]
                 rfl
                refine pure_ (i:=16) (N:=some 110) (v:=undef) (a':=?_) #[true,true,true,true,true,true,true,true,true,true,true,true,true,true,true,true,true,false,false,false,false,false,false,false,false,false,false,false,false,false,false,false] rfl rfl (any_of HT_.out (by kernel_rfl)) (fun _ _ _ h=>h) (Or.inr ⟨by rfl,rfl⟩) ?_ ?_
                rotate_left
                ·simp only [Act.put,List.setIfInBounds_toArray,List.set_cons_zero,List.set_cons_succ,i64_w,i32_w]
                 rfl
                refine pure_ (i:=17) (N:=some 111) (v:=undef) (a':=?_) #[true,true,true,true,true,true,true,true,true,true,true,true,true,true,true,true,true,true,false,false,false,false,false,false,false,false,false,false,false,false,false,false] rfl rfl (any_of HT_.out (by kernel_rfl)) (fun _ _ _ h=>h) (Or.inr ⟨by rfl,rfl⟩) ?_ ?_
                rotate_left
                ·simp only [Act.put,List.setIfInBounds_toArray,List.set_cons_zero,List.set_cons_succ,i64_w,i32_w]
                 rfl
                refine pure_ (i:=18) (N:=some 112) (v:=undef) (a':=?_) #[true,true,true,true,true,true,true,true,true,true,true,true,true,true,true,true,true,true,true,false,false,false,false,false,false,false,false,false,false,false,false,false] rfl rfl (any_of HT_.out (by kernel_rfl)) (fun _ _ _ h=>h) (Or.inr ⟨by rfl,rfl⟩) ?_ ?_
                rotate_left
                ·simp only [Act.put,List.setIfInBounds_toArray,List.set_cons_zero,List.set_cons_succ,i64_w,i32_w]
                 rfl
                refine pure_ (i:=19) (N:=some 113) (v:=undef) (a':=?_) #[true,true,true,true,true,true,true,true,true,true,true,true,true,true,true,true,true,true,true,true,false,false,false,false,false,false,false,false,false,false,false,false] rfl rfl (any_of HT_.out (by kernel_rfl)) (fun _ _ _ h=>h) (Or.inr ⟨by rfl,rfl⟩) ?_ ?_
                rotate_left
                ·simp only [Act.put,List.setIfInBounds_toArray,List.set_cons_zero,List.set_cons_succ,i64_w,i32_w]
                 rfl
                refine pure_ (i:=20) (N:=some 114) (v:=undef) (a':=?_) #[true,true,true,true,true,true,true,true,true,true,true,true,true,true,true,true,true,true,true,true,true,false,false,false,false,false,false,false,false,false,false,false] rfl rfl (any_of HT_.out (by kernel_rfl)) (fun _ _ _ h=>h) (Or.inr ⟨by rfl,rfl⟩) ?_ ?_
                rotate_left
                ·simp only [Act.put,List.setIfInBounds_toArray,List.set_cons_zero,List.set_cons_succ,i64_w,i32_w]
                 rfl
                refine pure_ (i:=21) (N:=some 115) (v:=undef) (a':=?_) #[true,true,true,true,true,true,true,true,true,true,true,true,true,true,true,true,true,true,true,true,true,true,false,false,false,false,false,false,false,false,false,false] rfl rfl (any_of HT_.out (by kernel_rfl)) (fun _ _ _ h=>h) (Or.inr ⟨by rfl,rfl⟩) ?_ ?_
                rotate_left
                ·simp only [Act.put,List.setIfInBounds_toArray,List.set_cons_zero,List.set_cons_succ,i64_w,i32_w]
                 rfl
                refine pure_ (i:=22) (N:=some 116) (v:=undef) (a':=?_) #[true,true,true,true,true,true,true,true,true,true,true,true,true,true,true,true,true,true,true,true,true,true,true,false,false,false,false,false,false,false,false,false] rfl rfl (any_of HT_.out (by kernel_rfl)) (fun _ _ _ h=>h) (Or.inr ⟨by rfl,rfl⟩) ?_ ?_
                rotate_left
                ·simp only [Act.put,List.setIfInBounds_toArray,List.set_cons_zero,List.set_cons_succ,i64_w,i32_w]
                 rfl
                refine pure_ (i:=23) (N:=some 117) (v:=undef) (a':=?_) #[true,true,true,true,true,true,true,true,true,true,true,true,true,true,true,true,true,true,true,true,true,true,true,true,false,false,false,false,false,false,false,false] rfl rfl (any_of HT_.out (by kernel_rfl)) (fun _ _ _ h=>h) (Or.inr ⟨by rfl,rfl⟩) ?_ ?_
                rotate_left
                ·simp only [Act.put,List.setIfInBounds_toArray,List.set_cons_zero,List.set_cons_succ,i64_w,i32_w]
                 rfl
                refine pure_ (i:=24) (N:=some 118) (v:=undef) (a':=?_) #[true,true,true,true,true,true,true,true,true,true,true,true,true,true,true,true,true,true,true,true,true,true,true,true,true,false,false,false,false,false,false,false] rfl rfl (any_of HT_.out (by kernel_rfl)) (fun _ _ _ h=>h) (Or.inr ⟨by rfl,rfl⟩) ?_ ?_
                rotate_left
                ·simp only [Act.put,List.setIfInBounds_toArray,List.set_cons_zero,List.set_cons_succ,i64_w,i32_w]
                 rfl
                refine pure_ (i:=25) (N:=some 119) (v:=undef) (a':=?_) #[true,true,true,true,true,true,true,true,true,true,true,true,true,true,true,true,true,true,true,true,true,true,true,true,true,true,false,false,false,false,false,false] rfl rfl (any_of HT_.out (by kernel_rfl)) (fun _ _ _ h=>h) (Or.inr ⟨by rfl,rfl⟩) ?_ ?_
                rotate_left
                ·simp only [Act.put,List.setIfInBounds_toArray,List.set_cons_zero,List.set_cons_succ,i64_w,i32_w]
                 rfl
                refine pure_ (i:=26) (N:=some 120) (v:=undef) (a':=?_) #[true,true,true,true,true,true,true,true,true,true,true,true,true,true,true,true,true,true,true,true,true,true,true,true,true,true,true,false,false,false,false,false] rfl rfl (any_of HT_.out (by kernel_rfl)) (fun _ _ _ h=>h) (Or.inr ⟨by rfl,rfl⟩) ?_ ?_
                rotate_left
                ·simp only [Act.put,List.setIfInBounds_toArray,List.set_cons_zero,List.set_cons_succ,i64_w,i32_w]
                 rfl
                refine pure_ (i:=27) (N:=some 121) (v:=undef) (a':=?_) #[true,true,true,true,true,true,true,true,true,true,true,true,true,true,true,true,true,true,true,true,true,true,true,true,true,true,true,true,false,false,false,false] rfl rfl (any_of HT_.out (by kernel_rfl)) (fun _ _ _ h=>h) (Or.inr ⟨by rfl,rfl⟩) ?_ ?_
                rotate_left
                ·simp only [Act.put,List.setIfInBounds_toArray,List.set_cons_zero,List.set_cons_succ,i64_w,i32_w]
                 rfl
                refine pure_ (i:=28) (N:=some 122) (v:=undef) (a':=?_) #[true,true,true,true,true,true,true,true,true,true,true,true,true,true,true,true,true,true,true,true,true,true,true,true,true,true,true,true,true,false,false,false] rfl rfl (any_of HT_.out (by kernel_rfl)) (fun _ _ _ h=>h) (Or.inr ⟨by rfl,rfl⟩) ?_ ?_
                rotate_left
                ·simp only [Act.put,List.setIfInBounds_toArray,List.set_cons_zero,List.set_cons_succ,i64_w,i32_w]
                 rfl
                refine pure_ (i:=29) (N:=some 123) (v:=undef) (a':=?_) #[true,true,true,true,true,true,true,true,true,true,true,true,true,true,true,true,true,true,true,true,true,true,true,true,true,true,true,true,true,true,false,false] rfl rfl (any_of HT_.out (by kernel_rfl)) (fun _ _ _ h=>h) (Or.inr ⟨by rfl,rfl⟩) ?_ ?_
                rotate_left
                ·simp only [Act.put,List.setIfInBounds_toArray,List.set_cons_zero,List.set_cons_succ,i64_w,i32_w]
                 rfl
                refine pure_ (i:=30) (N:=some 124) (v:=undef) (a':=?_) #[true,true,true,true,true,true,true,true,true,true,true,true,true,true,true,true,true,true,true,true,true,true,true,true,true,true,true,true,true,true,true,false] rfl rfl (any_of HT_.out (by kernel_rfl)) (fun _ _ _ h=>h) (Or.inr ⟨by rfl,rfl⟩) ?_ ?_
                rotate_left
                ·simp only [Act.put,List.setIfInBounds_toArray,List.set_cons_zero,List.set_cons_succ,i64_w,i32_w]
                 rfl
                refine pure_ (i:=31) (N:=some 125) (v:=?_) (a':=?_) #[true,true,true,true,true,true,true,true,true,true,true,true,true,true,true,true,true,true,true,true,true,true,true,true,true,true,true,true,true,true,true,true] rfl rfl (any_of HT_.out (by kernel_rfl)) (fun _ _ _ h=>h) (Or.inl ⟨by rfl,?_⟩) ?_ ?_
                rotate_left
                ·intro w'
                 go_simp
                 with_reducible rfl
                rotate_left
                ·simp only [Act.put,List.setIfInBounds_toArray,List.set_cons_zero,List.set_cons_succ,i64_w,i32_w]
                 rfl
                refine done_ (done_of HT_.out (by kernel_rfl)) ?_
                try go_wp2
                go_roundg k4
                case measure=>have:=HJ1.out;have:=HJ15.out;have:=HK3.out;have:=HK4.out;omega
                case rel=>exact ⟨(wrap64 (x4_4+1)),(by first|rfl|(simp;done)|(simp [*];done)),H',⟨by have:=HJ1.out;have:=HJ15.out;have:=HK3.out;have:=HK4.out;omega⟩,⟨by (with_reducible repeat (first|refine blk_drewN ?_ _|refine blk_drew ?_|refine blk_alloc ?_ _));exact BK176.out⟩,⟨by repeat (first|exact HB.out|apply below_alloc|apply pw_below_drewN|apply below_drew1|refine below_set ?_ GE176.out)⟩⟩
              ·replace c44:=Bool.eq_false_iff.mpr c44
               subst c44
               have H1:(some false)=some r:=by rw [if_neg (show ¬ (false=true) by decide)] at H;exact H
               clear H
               have H:=H1
               clear H1
               obtain rfl:=Option.some.inj H
               obtain ⟨hcz57_0,hcz57_1,hcz57_2,hcz57_3,hcz57_4,hcz57_5,hcz57_6,hfz57_0,hfz57_1,hfz57_2,hfz57_3,hfz57_4,hfz57_5,hfz57_6⟩:=blkf7 BK176.out
               have p185:0≤(x4_4:Int):=of_decide_eq_true (by first|(with_reducible assumption)|assumption)
               have q185:x4_4<(l0_5.length:Int):=of_decide_eq_true (by first|(with_reducible assumption)|assumption)
               obtain ⟨ad185,e185,hx185_0,hx185_1,hx185_2⟩:=at_T81 HR0_5.out x4_4 p185 q185
               cases e185
               replace hx185_0:=pw_cell_below HB.out hx185_0
               replace hx185_1:=pw_cell_below HB.out hx185_1
               replace hx185_2:=pw_cell_below HB.out hx185_2
               replace p185:=eq_true p185
               replace q185:=eq_true q185
               go_wp2_with (first|((with_reducible refine gate_callee (f:=52) rfl ?_);refine goesL_ (some 92) rfl rfl Try.func52 (by kernel_rfl) rfl #[.int .i64 ((rd_T81 l0_5 x4_4).f2),.int .i64 (-10000),.int .i64 10000] rfl (by (try simp only [List.map_toArray,List.map_cons,List.map_nil]);first|done|rfl|(simp only [List.length_drop,List.length_take];rfl)) ?_;(with_reducible refine (spec_l12In.calls ((rd_T81 l0_5 x4_4).f2) (-10000) 10000 false _ A43.out).mono ?_);rintro e w' ⟨rfl,⟨nd,rfl⟩⟩;refine ⟨_,rfl,?_⟩))
               go_ret
               exact ⟨by first|rfl|(simp [errW_none,errW_some]<;>rfl)|(simp [*,errW_none,errW_some]<;>rfl),by repeat (first|exact HB.out|apply below_alloc|apply pw_below_drewN|apply below_drew1|refine below_set ?_ GE176.out)⟩
             ·rw [if_neg c42] at H
              exact absurd H (by simp)
            ·rw [if_neg c41] at H
             have c41b0:decide (x4_4<(l0_5.length:Int))=false:=decide_eq_false c41
             clear c41
             have H':=Aside0.mk H
             clear H
             obtain ⟨hcz58_0,hcz58_1,hcz58_2,hcz58_3,hcz58_4,hcz58_5,hcz58_6,hfz58_0,hfz58_1,hfz58_2,hfz58_3,hfz58_4,hfz58_5,hfz58_6⟩:=blkf7 BK176.out
             go_wp2
             go_loopg [5] k4 (fun kq v5 w'=>∃ (x5_5:Int),v5=.int .i64 x5_5∧Aside0 (spec_FontOk.l2 kq x5_5 a0_0 a0_1 a0_2 a0_3 l0_4 l0_5 l0_6=some r)∧Aside0 (kq≤k4)∧Aside0 (w'.heap[gb176]?=some (.cells #[.int .i64 a0_0,.int .i64 a0_1,.int .i64 a0_2,.int .i64 a0_3,(.slice A0_4 l0_4.length c0_4),(.slice A0_5 l0_5.length c0_5),(.slice A0_6 l0_6.length c0_6)] 34 (0,0)))∧Aside0 (Below w.heap.size w w'))
             case atStart=>exact ⟨(1),(by first|rfl|(simp;done)|(simp [*];done)),H',⟨Nat.le_refl _⟩,⟨by (with_reducible repeat (first|refine blk_drewN ?_ _|refine blk_drew ?_|refine blk_alloc ?_ _));exact BK176.out⟩,⟨by repeat (first|exact HB.out|apply below_alloc|apply pw_below_drewN|apply below_drew1|refine below_set ?_ GE176.out)⟩⟩
             case round=>
              clear H'
              try clear p1;try clear q1;try clear hx1;try clear p2;try clear c4;try clear c5;try clear p6;try clear p18;try clear q18;try clear hx18;try clear p19;try clear q19;try clear hx19;try clear c41;try clear c41b0;try clear c42;try clear c44;try clear c45;try clear c45b0;try clear c47;try clear c48;try clear c52;try clear c53;try clear hcz53_0;try clear hcz53_1;try clear hcz53_2;try clear hcz53_3;try clear hcz53_4;try clear hcz53_5;try clear hcz53_6;try clear hcz55_0;try clear hcz55_1;try clear hcz55_2;try clear hcz55_3;try clear hcz55_4;try clear hcz55_5;try clear hcz55_6;try clear hcz57_0;try clear hcz57_1;try clear hcz57_2;try clear hcz57_3;try clear hcz57_4;try clear hcz57_5;try clear hcz57_6;try clear hcz58_0;try clear hcz58_1;try clear hcz58_2;try clear hcz58_3;try clear hcz58_4;try clear hcz58_5;try clear hcz58_6;try clear hfz53_0;try clear hfz53_1;try clear hfz53_2;try clear hfz53_3;try clear hfz53_4;try clear hfz53_5;try clear hfz53_6;try clear hfz55_0;try clear hfz55_1;try clear hfz55_2;try clear hfz55_3;try clear hfz55_4;try clear hfz55_5;try clear hfz55_6;try clear hfz57_0;try clear hfz57_1;try clear hfz57_2;try clear hfz57_3;try clear hfz57_4;try clear hfz57_5;try clear hfz57_6;try clear hfz58_0;try clear hfz58_1;try clear hfz58_2;try clear hfz58_3;try clear hfz58_4;try clear hfz58_5;try clear hfz58_6;try clear hx185_0;try clear hx185_1;try clear hx185_2;try clear hx187_0;try clear hx187_1;try clear hx187_2;try clear hx188_0;try clear hx188_1;try clear hx188_2;try clear hx189_0;try clear hx189_1;try clear hx189_2;try clear hx190_0;try clear hx190_1;try clear hx190_2;try clear p185;try clear p187;try clear p188;try clear p189;try clear p190;try clear q185;try clear q187;try clear q188;try clear q189;try clear q190
              obtain ⟨x5_5,rfl,HA,HK5,BK176,HB⟩:=hrel
              cases gk with
             |zero=>exact absurd HA.out (by simp [spec_FontOk.l2])
             |succ k5=>
               have H:=HA.out
               clear HA
               simp only [spec_FontOk.l2] at H
               by_cases c59:x5_5<(l0_6.length:Int)
               ·rw [if_pos c59] at H
                have c59b0:decide (x5_5<(l0_6.length:Int))=true:=decide_eq_true c59
                clear c59
                obtain ⟨ji60,hji60⟩:∃ j_:Int,(wrap64 (x5_5 - 1))=j_:=⟨_,rfl⟩
                replace H:(if 0≤(ji60) then (if (ji60)<(l0_6.length:Int) then (if 0≤x5_5 then ((spec_l12Less.f ((rd_T84 l0_6 (ji60)).f0) ((rd_T84 l0_6 (ji60)).f1) ((rd_T84 l0_6 x5_5).f0) ((rd_T84 l0_6 x5_5).f1)).bind fun t196=>(if t196=true then (spec_FontOk.l2 k5 (wrap64 (x5_5+1)) a0_0 a0_1 a0_2 a0_3 l0_4 l0_5 l0_6) else (some false))) else (none)) else (none)) else (none))=some r:=by first|(rw [hji60] at H;exact H)|(simp only [hji60] at H ⊢;exact H)
                have hji60w:(IntKind.i64.wrap (x5_5 - 1))=ji60:=(i64_w _).trans hji60
                by_cases c61:0≤(ji60)
                ·rw [if_pos c61] at H
                 have c61b0:decide (0≤(ji60))=true:=decide_eq_true c61
                 clear c61
                 by_cases c62:(ji60)<(l0_6.length:Int)
                 ·rw [if_pos c62] at H
                  have c62b0:decide ((ji60)<(l0_6.length:Int))=true:=decide_eq_true c62
                  clear c62
                  by_cases c63:0≤x5_5
                  ·rw [if_pos c63] at H
                   have c63b0:decide (0≤x5_5)=true:=decide_eq_true c63
                   clear c63
                   replace H:=Option.bind_eq_some_iff.mp H
                   obtain ⟨t196,A640,H⟩:=H
                   replace H:(if t196=true then (spec_FontOk.l2 k5 (wrap64 (x5_5+1)) a0_0 a0_1 a0_2 a0_3 l0_4 l0_5 l0_6) else (some false))=some r:=H
                   have A64:=Aside0.mk A640
                   clear A640
                   by_cases c65:t196=true
                   ·subst c65
                    have H1:(spec_FontOk.l2 k5 (wrap64 (x5_5+1)) a0_0 a0_1 a0_2 a0_3 l0_4 l0_5 l0_6)=some r:=by rw [if_pos rfl] at H;exact H
                    clear H
                    have H:=H1
                    clear H1
                    have H':=Aside0.mk H
                    clear H
                    obtain ⟨hcz66_0,hcz66_1,hcz66_2,hcz66_3,hcz66_4,hcz66_5,hcz66_6,hfz66_0,hfz66_1,hfz66_2,hfz66_3,hfz66_4,hfz66_5,hfz66_6⟩:=blkf7 BK176.out
                    try go_wp2
                    have n0_:=Aside0.mk (blk_drew BK176.out)
                    have n1_:=Aside0.mk (below_drew1 HB.out)
                    clear BK176
                    clear HB
                    have BK176:=n0_
                    have HB:=n1_
                    clear n0_ n1_
                    have p192:0≤((ji60):Int):=of_decide_eq_true (by first|(with_reducible assumption)|assumption)
                    have q192:(ji60)<(l0_6.length:Int):=of_decide_eq_true (by first|(with_reducible assumption)|assumption)
                    obtain ⟨ad192,e192,hx192_0,hx192_1,hx192_2⟩:=at_T84 HR0_6.out (ji60) p192 q192
                    have hw192_2:=hx192_2
                    have hw192_1:=hx192_1
                    have hw192_0:=hx192_0
                    cases e192
                    replace hx192_0:=pw_cell_below HB.out hx192_0
                    replace hx192_1:=pw_cell_below HB.out hx192_1
                    replace hx192_2:=pw_cell_below HB.out hx192_2
                    replace p192:=eq_true p192
                    replace q192:=eq_true q192
                    have p193:0≤((ji60):Int):=of_decide_eq_true (by first|(with_reducible assumption)|assumption)
                    have q193:(ji60)<(l0_6.length:Int):=of_decide_eq_true (by first|(with_reducible assumption)|assumption)
                    obtain ⟨ad193,e193,hx193_0,hx193_1,hx193_2⟩:=at_T84 HR0_6.out (ji60) p193 q193
                    have hw193_2:=hx193_2
                    have hw193_1:=hx193_1
                    have hw193_0:=hx193_0
                    obtain rfl:ad192=ad193:=(by injection e193)
                    replace hx193_0:=pw_cell_below HB.out hx193_0
                    replace hx193_1:=pw_cell_below HB.out hx193_1
                    replace hx193_2:=pw_cell_below HB.out hx193_2
                    replace p193:=eq_true p193
                    replace q193:=eq_true q193
                    have p194:0≤(x5_5:Int):=of_decide_eq_true (by first|(with_reducible assumption)|assumption)
                    have q194:x5_5<(l0_6.length:Int):=of_decide_eq_true (by first|(with_reducible assumption)|assumption)
                    obtain ⟨ad194,e194,hx194_0,hx194_1,hx194_2⟩:=at_T84 HR0_6.out x5_5 p194 q194
                    have hw194_2:=hx194_2
                    have hw194_1:=hx194_1
                    have hw194_0:=hx194_0
                    obtain rfl:ad192=ad194:=(by injection e194)
                    replace hx194_0:=pw_cell_below HB.out hx194_0
                    replace hx194_1:=pw_cell_below HB.out hx194_1
                    replace hx194_2:=pw_cell_below HB.out hx194_2
                    replace p194:=eq_true p194
                    replace q194:=eq_true q194
                    have p195:0≤(x5_5:Int):=of_decide_eq_true (by first|(with_reducible assumption)|assumption)
                    have q195:x5_5<(l0_6.length:Int):=of_decide_eq_true (by first|(with_reducible assumption)|assumption)
                    obtain ⟨ad195,e195,hx195_0,hx195_1,hx195_2⟩:=at_T84 HR0_6.out x5_5 p195 q195
                    have hw195_2:=hx195_2
                    have hw195_1:=hx195_1
                    have hw195_0:=hx195_0
                    obtain rfl:ad192=ad195:=(by injection e195)
                    replace hx195_0:=pw_cell_below HB.out hx195_0
                    replace hx195_1:=pw_cell_below HB.out hx195_1
                    replace hx195_2:=pw_cell_below HB.out hx195_2
                    replace p195:=eq_true p195
                    replace q195:=eq_true q195
                    refine start_ (n:=28) (S:=fun w'=>w'.cell? ⟨gb176,0,none⟩=some (.int .i64 a0_0)∧w'.cell? ⟨gb176,1,none⟩=some (.int .i64 a0_1)∧w'.cell? ⟨gb176,2,none⟩=some (.int .i64 a0_2)∧w'.cell? ⟨gb176,3,none⟩=some (.int .i64 a0_3)∧w'.cell? ⟨gb176,4,none⟩=some (.slice A0_4 l0_4.length c0_4)∧w'.cell? ⟨gb176,5,none⟩=some (.slice A0_5 l0_5.length c0_5)∧w'.cell? ⟨gb176,6,none⟩=some (.slice (some ad192) l0_6.length c0_6)∧w'.cell? (ad192.add (((ji60)).toNat*3))=some (.int .i64 ((rd_T84 l0_6 (ji60)).f0))∧w'.cell? ⟨(ad192.add (((ji60)).toNat*3)).block,(ad192.add (((ji60)).toNat*3)).off+1,none⟩=some (.int .i64 ((rd_T84 l0_6 (ji60)).f1))∧w'.cell? ⟨(ad192.add (((ji60)).toNat*3)).block,(ad192.add (((ji60)).toNat*3)).off+2,none⟩=some (.int .i64 ((rd_T84 l0_6 (ji60)).f2))∧w'.cell? (ad192.add (((ji60)).toNat*3))=some (.int .i64 ((rd_T84 l0_6 (ji60)).f0))∧w'.cell? ⟨(ad192.add (((ji60)).toNat*3)).block,(ad192.add (((ji60)).toNat*3)).off+1,none⟩=some (.int .i64 ((rd_T84 l0_6 (ji60)).f1))∧w'.cell? ⟨(ad192.add (((ji60)).toNat*3)).block,(ad192.add (((ji60)).toNat*3)).off+2,none⟩=some (.int .i64 ((rd_T84 l0_6 (ji60)).f2))∧w'.cell? (ad192.add ((x5_5).toNat*3))=some (.int .i64 ((rd_T84 l0_6 x5_5).f0))∧w'.cell? ⟨(ad192.add ((x5_5).toNat*3)).block,(ad192.add ((x5_5).toNat*3)).off+1,none⟩=some (.int .i64 ((rd_T84 l0_6 x5_5).f1))∧w'.cell? ⟨(ad192.add ((x5_5).toNat*3)).block,(ad192.add ((x5_5).toNat*3)).off+2,none⟩=some (.int .i64 ((rd_T84 l0_6 x5_5).f2))∧w'.cell? (ad192.add ((x5_5).toNat*3))=some (.int .i64 ((rd_T84 l0_6 x5_5).f0))∧w'.cell? ⟨(ad192.add ((x5_5).toNat*3)).block,(ad192.add ((x5_5).toNat*3)).off+1,none⟩=some (.int .i64 ((rd_T84 l0_6 x5_5).f1))∧w'.cell? ⟨(ad192.add ((x5_5).toNat*3)).block,(ad192.add ((x5_5).toNat*3)).off+2,none⟩=some (.int .i64 ((rd_T84 l0_6 x5_5).f2))) (ds:=[]) #[false,false,false,false,false,false,false,false,false,false,false,false,false,false,false,false,false,false,false,false,false,false,false,false,false,false,false,false] (by kernel_rfl) rfl rfl ⟨(blk_cell BK176.out 0).trans rfl,(blk_cell BK176.out 1).trans rfl,(blk_cell BK176.out 2).trans rfl,(blk_cell BK176.out 3).trans rfl,(blk_cell BK176.out 4).trans rfl,(blk_cell BK176.out 5).trans rfl,(blk_cell BK176.out 6).trans rfl,((HB.out.cell (World.block_lt_of_cell? w _ hw192_0)).trans hw192_0),((HB.out.cell (World.block_lt_of_cell? w _ hw192_1)).trans hw192_1),((HB.out.cell (World.block_lt_of_cell? w _ hw192_2)).trans hw192_2),((HB.out.cell (World.block_lt_of_cell? w _ hw193_0)).trans hw193_0),((HB.out.cell (World.block_lt_of_cell? w _ hw193_1)).trans hw193_1),((HB.out.cell (World.block_lt_of_cell? w _ hw193_2)).trans hw193_2),((HB.out.cell (World.block_lt_of_cell? w _ hw194_0)).trans hw194_0),((HB.out.cell (World.block_lt_of_cell? w _ hw194_1)).trans hw194_1),((HB.out.cell (World.block_lt_of_cell? w _ hw194_2)).trans hw194_2),((HB.out.cell (World.block_lt_of_cell? w _ hw195_0)).trans hw195_0),((HB.out.cell (World.block_lt_of_cell? w _ hw195_1)).trans hw195_1),((HB.out.cell (World.block_lt_of_cell? w _ hw195_2)).trans hw195_2)⟩ (fun hHeld=>?_);refine with_tabW spec_FontOk.tab20 spec_FontOk.bits20 (fun HT_ HW_=>?_)
                    generalize wr.drew=w67 at BK176 HB hx192_0 hx192_1 hx192_2 hx193_0 hx193_1 hx193_2 hx194_0 hx194_1 hx194_2 hx195_0 hx195_1 hx195_2 hHeld ⊢
                    refine pure_ (i:=0) (N:=some 133) (v:=?_) (a':=?_) #[true,false,false,false,false,false,false,false,false,false,false,false,false,false,false,false,false,false,false,false,false,false,false,false,false,false,false,false] rfl rfl (any_of HT_.out (by kernel_rfl)) (fun _ _ _ h=>h) (Or.inl ⟨by rfl,?_⟩) ?_ ?_
                    rotate_left
                    ·intro w'
                     go_simp
                     with_reducible rfl
                    rotate_left
                    ·simp only [Act.put,List.setIfInBounds_toArray,List.set_cons_zero,List.set_cons_succ,i64_w,i32_w]
                     rfl
                    refine pure_ (i:=2) (N:=some 135) (v:=?_) (a':=?_) #[true,false,true,false,false,false,false,false,false,false,false,false,false,false,false,false,false,false,false,false,false,false,false,false,false,false,false,false] rfl rfl (any_of HT_.out (by kernel_rfl)) (fun _ _ _ h=>h) (Or.inl ⟨by rfl,?_⟩) ?_ ?_
                    rotate_left
                    ·intro w'
                     go_simp
                     with_reducible rfl
                    rotate_left
                    ·simp only [Act.put,List.setIfInBounds_toArray,List.set_cons_zero,List.set_cons_succ,i64_w,i32_w]
                     rfl
                    refine pure_ (i:=3) (N:=some 136) (v:=?_) (a':=?_) #[true,false,true,true,false,false,false,false,false,false,false,false,false,false,false,false,false,false,false,false,false,false,false,false,false,false,false,false] rfl rfl (any_of HT_.out (by kernel_rfl)) (fun _ _ _ h=>h) (Or.inl ⟨by rfl,?_⟩) ?_ ?_
                    rotate_left
                    ·intro w'
                     go_simp
                     with_reducible rfl
                    rotate_left
                    ·simp only [Act.put,List.setIfInBounds_toArray,List.set_cons_zero,List.set_cons_succ,i64_w,i32_w]
                     rfl
                    refine pure_ (i:=7) (N:=some 140) (v:=?_) (a':=?_) #[true,false,true,true,false,false,false,true,false,false,false,false,false,false,false,false,false,false,false,false,false,false,false,false,false,false,false,false] rfl rfl (any_of HT_.out (by kernel_rfl)) (fun _ _ _ h=>h) (Or.inl ⟨by rfl,?_⟩) ?_ ?_
                    rotate_left
                    ·intro w'
                     go_simp
                     with_reducible rfl
                    rotate_left
                    ·simp only [Act.put,List.setIfInBounds_toArray,List.set_cons_zero,List.set_cons_succ,i64_w,i32_w]
                     rfl
                    refine pure_ (i:=9) (N:=some 142) (v:=?_) (a':=?_) #[true,false,true,true,false,false,false,true,false,true,false,false,false,false,false,false,false,false,false,false,false,false,false,false,false,false,false,false] rfl rfl (any_of HT_.out (by kernel_rfl)) (fun _ _ _ h=>h) (Or.inl ⟨by rfl,?_⟩) ?_ ?_
                    rotate_left
                    ·intro w'
                     go_simp
                     with_reducible rfl
                    rotate_left
                    ·simp only [Act.put,List.setIfInBounds_toArray,List.set_cons_zero,List.set_cons_succ,i64_w,i32_w]
                     rfl
                    refine pure_ (i:=10) (N:=some 143) (v:=?_) (a':=?_) #[true,false,true,true,false,false,false,true,false,true,true,false,false,false,false,false,false,false,false,false,false,false,false,false,false,false,false,false] rfl rfl (any_of HT_.out (by kernel_rfl)) (fun _ _ _ h=>h) (Or.inl ⟨by rfl,?_⟩) ?_ ?_
                    rotate_left
                    ·intro w'
                     go_simp
                     with_reducible rfl
                    rotate_left
                    ·simp only [Act.put,List.setIfInBounds_toArray,List.set_cons_zero,List.set_cons_succ,i64_w,i32_w]
                     rfl
                    refine pure_ (i:=14) (N:=some 147) (v:=?_) (a':=?_) #[true,false,true,true,false,false,false,true,false,true,true,false,false,false,true,false,false,false,false,false,false,false,false,false,false,false,false,false] rfl rfl (any_of HT_.out (by kernel_rfl)) (fun _ _ _ h=>h) (Or.inl ⟨by rfl,?_⟩) ?_ ?_
                    rotate_left
                    ·intro w'
                     go_simp
                     with_reducible rfl
                    rotate_left
                    ·simp only [Act.put,List.setIfInBounds_toArray,List.set_cons_zero,List.set_cons_succ,i64_w,i32_w]
                     rfl
                    refine pure_ (i:=16) (N:=some 149) (v:=?_) (a':=?_) #[true,false,true,true,false,false,false,true,false,true,true,false,false,false,true,false,true,false,false,false,false,false,false,false,false,false,false,false] rfl rfl (any_of HT_.out (by kernel_rfl)) (fun _ _ _ h=>h) (Or.inl ⟨by rfl,?_⟩) ?_ ?_
                    rotate_left
                    ·intro w'
                     go_simp
                     with_reducible rfl
                    rotate_left
                    ·simp only [Act.put,List.setIfInBounds_toArray,List.set_cons_zero,List.set_cons_succ,i64_w,i32_w]
                     rfl
                    refine pure_ (i:=20) (N:=some 153) (v:=?_) (a':=?_) #[true,false,true,true,false,false,false,true,false,true,true,false,false,false,true,false,true,false,false,false,true,false,false,false,false,false,false,false] rfl rfl (any_of HT_.out (by kernel_rfl)) (fun _ _ _ h=>h) (Or.inl ⟨by rfl,?_⟩) ?_ ?_
                    rotate_left
                    ·intro w'
                     go_simp
                     with_reducible rfl
                    rotate_left
                    ·simp only [Act.put,List.setIfInBounds_toArray,List.set_cons_zero,List.set_cons_succ,i64_w,i32_w]
                     rfl
                    refine pure_ (i:=22) (N:=some 155) (v:=?_) (a':=?_) #[true,false,true,true,false,false,false,true,false,true,true,false,false,false,true,false,true,false,false,false,true,false,true,false,false,false,false,false] rfl rfl (any_of HT_.out (by kernel_rfl)) (fun _ _ _ h=>h) (Or.inl ⟨by rfl,?_⟩) ?_ ?_
                    rotate_left
                    ·intro w'
                     go_simp
                     with_reducible rfl
                    rotate_left
                    ·simp only [Act.put,List.setIfInBounds_toArray,List.set_cons_zero,List.set_cons_succ,i64_w,i32_w]
                     rfl
                    refine take_ (i:=1) (N:=some 134) (v:=?_) (a':=?_) #[true,true,true,true,false,false,false,true,false,true,true,false,false,false,true,false,true,false,false,false,true,false,true,false,false,false,false,false] rfl rfl (take_ofW HT_.out HW_.out (by kernel_rfl)) (fun _ _ _ h=>h) (Or.inl ⟨by rfl,?_⟩) hHeld ?_ ?_
                    rotate_left
                    ·rintro w' ⟨s0,s1,s2,s3,s4,s5,s6,s7,s8,s9,s10,s11,s12,s13,s14,s15,s16,s17,s18⟩
                     go_simp
                     with_reducible rfl
                    rotate_left
                    ·simp only [Act.put,List.setIfInBounds_toArray,List.set_cons_zero,List.set_cons_succ,i64_w,i32_w]
                     rfl
                    refine pure_ (i:=4) (N:=some 137) (v:=?_) (a':=?_) #[true,true,true,true,true,false,false,true,false,true,true,false,false,false,true,false,true,false,false,false,true,false,true,false,false,false,false,false] rfl rfl (any_of HT_.out (by kernel_rfl)) (fun _ _ _ h=>h) (Or.inl ⟨by rfl,?_⟩) ?_ ?_
                    rotate_left
                    ·intro w'
                     go_simp
                     with_reducible rfl
                    rotate_left
                    ·simp only [Act.put,List.setIfInBounds_toArray,List.set_cons_zero,List.set_cons_succ,i64_w,i32_w]
                     rfl
                    refine pure_ (i:=5) (N:=some 138) (v:=?_) (a':=?_) #[true,true,true,true,true,true,false,true,false,true,true,false,false,false,true,false,true,false,false,false,true,false,true,false,false,false,false,false] rfl rfl (any_of HT_.out (by kernel_rfl)) (fun _ _ _ h=>h) (Or.inl ⟨by rfl,?_⟩) ?_ ?_
                    rotate_left
                    ·intro w'
                     go_simp
                     with_reducible rfl
                    rotate_left
                    ·simp only [Act.put,List.setIfInBounds_toArray,List.set_cons_zero,List.set_cons_succ,i64_w,i32_w]
                     rfl
                    refine take_ (i:=6) (N:=some 139) (v:=?_) (a':=?_) #[true,true,true,true,true,true,true,true,false,true,true,false,false,false,true,false,true,false,false,false,true,false,true,false,false,false,false,false] rfl rfl (take_ofW HT_.out HW_.out (by kernel_rfl)) (fun _ _ _ h=>h) (Or.inl ⟨by rfl,?_⟩) hHeld ?_ ?_
                    rotate_left
                    ·rintro w' ⟨s0,s1,s2,s3,s4,s5,s6,s7,s8,s9,s10,s11,s12,s13,s14,s15,s16,s17,s18⟩
                     go_simp
                     with_reducible rfl
                    rotate_left
                    ·simp only [Act.put,List.setIfInBounds_toArray,List.set_cons_zero,List.set_cons_succ,i64_w,i32_w]
                     rfl
                    refine take_ (i:=8) (N:=some 141) (v:=?_) (a':=?_) #[true,true,true,true,true,true,true,true,true,true,true,false,false,false,true,false,true,false,false,false,true,false,true,false,false,false,false,false] rfl rfl (take_ofW HT_.out HW_.out (by kernel_rfl)) (fun _ _ _ h=>h) (Or.inl ⟨by rfl,?_⟩) hHeld ?_ ?_
                    rotate_left
                    ·rintro w' ⟨s0,s1,s2,s3,s4,s5,s6,s7,s8,s9,s10,s11,s12,s13,s14,s15,s16,s17,s18⟩
                     go_simp
                     with_reducible rfl
                    rotate_left
                    ·simp only [Act.put,List.setIfInBounds_toArray,List.set_cons_zero,List.set_cons_succ,i64_w,i32_w]
                     rfl
                    refine pure_ (i:=11) (N:=some 144) (v:=?_) (a':=?_) #[true,true,true,true,true,true,true,true,true,true,true,true,false,false,true,false,true,false,false,false,true,false,true,false,false,false,false,false] rfl rfl (any_of HT_.out (by kernel_rfl)) (fun _ _ _ h=>h) (Or.inl ⟨by rfl,?_⟩) ?_ ?_
                    rotate_left
                    ·intro w'
                     go_simp
                     with_reducible rfl
                    rotate_left
                    ·simp only [Act.put,List.setIfInBounds_toArray,List.set_cons_zero,List.set_cons_succ,i64_w,i32_w]
                     rfl
                    refine pure_ (i:=12) (N:=some 145) (v:=?_) (a':=?_) #[true,true,true,true,true,true,true,true,true,true,true,true,true,false,true,false,true,false,false,false,true,false,true,false,false,false,false,false] rfl rfl (any_of HT_.out (by kernel_rfl)) (fun _ _ _ h=>h) (Or.inl ⟨by rfl,?_⟩) ?_ ?_
                    rotate_left
                    ·intro w'
                     go_simp
                     with_reducible rfl
                    rotate_left
                    ·simp only [Act.put,List.setIfInBounds_toArray,List.set_cons_zero,List.set_cons_succ,i64_w,i32_w]
                     rfl
                    refine take_ (i:=13) (N:=some 146) (v:=?_) (a':=?_) #[true,true,true,true,true,true,true,true,true,true,true,true,true,true,true,false,true,false,false,false,true,false,true,false,false,false,false,false] rfl rfl (take_ofW HT_.out HW_.out (by kernel_rfl)) (fun _ _ _ h=>h) (Or.inl ⟨by rfl,?_⟩) hHeld ?_ ?_
                    rotate_left
                    ·rintro w' ⟨s0,s1,s2,s3,s4,s5,s6,s7,s8,s9,s10,s11,s12,s13,s14,s15,s16,s17,s18⟩
                     go_simp
                     with_reducible rfl
                    rotate_left
                    ·simp only [Act.put,List.setIfInBounds_toArray,List.set_cons_zero,List.set_cons_succ,i64_w,i32_w]
                     rfl
                    refine take_ (i:=15) (N:=some 148) (v:=?_) (a':=?_) #[true,true,true,true,true,true,true,true,true,true,true,true,true,true,true,true,true,false,false,false,true,false,true,false,false,false,false,false] rfl rfl (take_ofW HT_.out HW_.out (by kernel_rfl)) (fun _ _ _ h=>h) (Or.inl ⟨by rfl,?_⟩) hHeld ?_ ?_
                    rotate_left
                    ·rintro w' ⟨s0,s1,s2,s3,s4,s5,s6,s7,s8,s9,s10,s11,s12,s13,s14,s15,s16,s17,s18⟩
                     go_simp
                     with_reducible rfl
                    rotate_left
                    ·simp only [Act.put,List.setIfInBounds_toArray,List.set_cons_zero,List.set_cons_succ,i64_w,i32_w]
                     rfl
                    refine pure_ (i:=17) (N:=some 150) (v:=?_) (a':=?_) #[true,true,true,true,true,true,true,true,true,true,true,true,true,true,true,true,true,true,false,false,true,false,true,false,false,false,false,false] rfl rfl (any_of HT_.out (by kernel_rfl)) (fun _ _ _ h=>h) (Or.inl ⟨by rfl,?_⟩) ?_ ?_
                    rotate_left
                    ·intro w'
                     go_simp
                     with_reducible rfl
                    rotate_left
                    ·simp only [Act.put,List.setIfInBounds_toArray,List.set_cons_zero,List.set_cons_succ,i64_w,i32_w]
                     rfl
                    refine pure_ (i:=18) (N:=some 151) (v:=?_) (a':=?_) #[true,true,true,true,true,true,true,true,true,true,true,true,true,true,true,true,true,true,true,false,true,false,true,false,false,false,false,false] rfl rfl (any_of HT_.out (by kernel_rfl)) (fun _ _ _ h=>h) (Or.inl ⟨by rfl,?_⟩) ?_ ?_
                    rotate_left
                    ·intro w'
                     go_simp
                     with_reducible rfl
                    rotate_left
                    ·simp only [Act.put,List.setIfInBounds_toArray,List.set_cons_zero,List.set_cons_succ,i64_w,i32_w]
                     rfl
                    refine take_ (i:=19) (N:=some 152) (v:=?_) (a':=?_) #[true,true,true,true,true,true,true,true,true,true,true,true,true,true,true,true,true,true,true,true,true,false,true,false,false,false,false,false] rfl rfl (take_ofW HT_.out HW_.out (by kernel_rfl)) (fun _ _ _ h=>h) (Or.inl ⟨by rfl,?_⟩) hHeld ?_ ?_
                    rotate_left
                    ·rintro w' ⟨s0,s1,s2,s3,s4,s5,s6,s7,s8,s9,s10,s11,s12,s13,s14,s15,s16,s17,s18⟩
                     go_simp
                     with_reducible rfl
                    rotate_left
                    ·simp only [Act.put,List.setIfInBounds_toArray,List.set_cons_zero,List.set_cons_succ,i64_w,i32_w]
                     rfl
                    refine take_ (i:=21) (N:=some 154) (v:=?_) (a':=?_) #[true,true,true,true,true,true,true,true,true,true,true,true,true,true,true,true,true,true,true,true,true,true,true,false,false,false,false,false] rfl rfl (take_ofW HT_.out HW_.out (by kernel_rfl)) (fun _ _ _ h=>h) (Or.inl ⟨by rfl,?_⟩) hHeld ?_ ?_
                    rotate_left
                    ·rintro w' ⟨s0,s1,s2,s3,s4,s5,s6,s7,s8,s9,s10,s11,s12,s13,s14,s15,s16,s17,s18⟩
                     go_simp
                     with_reducible rfl
                    rotate_left
                    ·simp only [Act.put,List.setIfInBounds_toArray,List.set_cons_zero,List.set_cons_succ,i64_w,i32_w]
                     rfl
                    refine pure_ (i:=23) (N:=some 156) (v:=?_) (a':=?_) #[true,true,true,true,true,true,true,true,true,true,true,true,true,true,true,true,true,true,true,true,true,true,true,true,false,false,false,false] rfl rfl (any_of HT_.out (by kernel_rfl)) (fun _ _ _ h=>h) (Or.inl ⟨by rfl,?_⟩) ?_ ?_
                    rotate_left
                    ·intro w'
                     go_simp
                     with_reducible rfl
                    rotate_left
                    ·simp only [Act.put,List.setIfInBounds_toArray,List.set_cons_zero,List.set_cons_succ,i64_w,i32_w]
                     rfl
                    refine pure_ (i:=24) (N:=some 157) (v:=?_) (a':=?_) #[true,true,true,true,true,true,true,true,true,true,true,true,true,true,true,true,true,true,true,true,true,true,true,true,true,false,false,false] rfl rfl (any_of HT_.out (by kernel_rfl)) (fun _ _ _ h=>h) (Or.inl ⟨by rfl,?_⟩) ?_ ?_
                    rotate_left
                    ·intro w'
                     go_simp
                     with_reducible rfl
                    rotate_left
                    ·simp only [Act.put,List.setIfInBounds_toArray,List.set_cons_zero,List.set_cons_succ,i64_w,i32_w]
                     rfl
                    refine take_ (i:=25) (N:=some 158) (v:=?_) (a':=?_) #[true,true,true,true,true,true,true,true,true,true,true,true,true,true,true,true,true,true,true,true,true,true,true,true,true,true,false,false] rfl rfl (take_ofW HT_.out HW_.out (by kernel_rfl)) (fun _ _ _ h=>h) (Or.inl ⟨by rfl,?_⟩) hHeld ?_ ?_
                    rotate_left
                    ·rintro w' ⟨s0,s1,s2,s3,s4,s5,s6,s7,s8,s9,s10,s11,s12,s13,s14,s15,s16,s17,s18⟩
                     go_simp
                     with_reducible rfl
                    rotate_left
                    ·simp only [Act.put,List.setIfInBounds_toArray,List.set_cons_zero,List.set_cons_succ,i64_w,i32_w]
                     rfl
                    refine one_ (i:=26) (N:=some 159) #[true,true,true,true,true,true,true,true,true,true,true,true,true,true,true,true,true,true,true,true,true,true,true,true,true,true,true,false] rfl rfl (one_of HT_.out (by kernel_rfl)) (by decide) (fun K hK=>?_)
                    refine goes_ Try.func53 (by kernel_rfl) rfl #[.int .i64 ((rd_T84 l0_6 (ji60)).f0),.int .i64 ((rd_T84 l0_6 (ji60)).f1),.int .i64 ((rd_T84 l0_6 x5_5).f0),.int .i64 ((rd_T84 l0_6 x5_5).f1)] (by rfl) rfl rfl (by (try simp only [List.map_toArray,List.map_cons,List.map_nil]);first|done|(simp only [hji60];rfl)|rfl|(simp only [List.length_drop,List.length_take];rfl)) ?_
                    with_reducible refine (spec_l12Less.calls ((rd_T84 l0_6 (ji60)).f0) ((rd_T84 l0_6 (ji60)).f1) ((rd_T84 l0_6 x5_5).f0) ((rd_T84 l0_6 x5_5).f1) true _ A64.out).mono ?_
                    rintro e w' ⟨rfl,⟨nd,rfl⟩⟩
                    refine ⟨_,rfl,?_⟩
                    refine hK.out _ _ ⟨(blk_cell BK176.out 0).trans rfl,(blk_cell BK176.out 1).trans rfl,(blk_cell BK176.out 2).trans rfl,(blk_cell BK176.out 3).trans rfl,(blk_cell BK176.out 4).trans rfl,(blk_cell BK176.out 5).trans rfl,(blk_cell BK176.out 6).trans rfl,((HB.out.cell (World.block_lt_of_cell? w _ hw192_0)).trans hw192_0),((HB.out.cell (World.block_lt_of_cell? w _ hw192_1)).trans hw192_1),((HB.out.cell (World.block_lt_of_cell? w _ hw192_2)).trans hw192_2),((HB.out.cell (World.block_lt_of_cell? w _ hw193_0)).trans hw193_0),((HB.out.cell (World.block_lt_of_cell? w _ hw193_1)).trans hw193_1),((HB.out.cell (World.block_lt_of_cell? w _ hw193_2)).trans hw193_2),((HB.out.cell (World.block_lt_of_cell? w _ hw194_0)).trans hw194_0),((HB.out.cell (World.block_lt_of_cell? w _ hw194_1)).trans hw194_1),((HB.out.cell (World.block_lt_of_cell? w _ hw194_2)).trans hw194_2),((HB.out.cell (World.block_lt_of_cell? w _ hw195_0)).trans hw195_0),((HB.out.cell (World.block_lt_of_cell? w _ hw195_1)).trans hw195_1),((HB.out.cell (World.block_lt_of_cell? w _ hw195_2)).trans hw195_2)⟩ (fun hHeld=>?_)
                    clear hK K
                    refine norm_ (a':=?_) ?_ ?_
                    rotate_left
                    ·show Act.put _ (some 159) _=_
                     simp only [Act.put,List.setIfInBounds_toArray,List.set_cons_zero,List.set_cons_succ,i64_w,i32_w]
                     rfl
                    refine pure_ (i:=27) (N:=some 160) (v:=?_) (a':=?_) #[true,true,true,true,true,true,true,true,true,true,true,true,true,true,true,true,true,true,true,true,true,true,true,true,true,true,true,true] rfl rfl (any_of HT_.out (by kernel_rfl)) (fun _ _ _ h=>h) (Or.inl ⟨by rfl,?_⟩) ?_ ?_
                    rotate_left
                    ·intro w'
                     go_simp
                     with_reducible rfl
                    rotate_left
                    ·simp only [Act.put,List.setIfInBounds_toArray,List.set_cons_zero,List.set_cons_succ,i64_w,i32_w]
                     rfl
                    refine done_ (done_of HT_.out (by kernel_rfl)) ?_
                    try go_wp2
                    go_roundg k5
                    case measure=>have:=HJ1.out;have:=HJ15.out;have:=HK3.out;have:=HK4.out;have:=HK5.out;omega
                    case rel=>exact ⟨(wrap64 (x5_5+1)),(by first|rfl|(simp;done)|(simp [*];done)),H',⟨by have:=HJ1.out;have:=HJ15.out;have:=HK3.out;have:=HK4.out;have:=HK5.out;omega⟩,⟨by (with_reducible repeat (first|refine blk_drewN ?_ _|refine blk_drew ?_|refine blk_alloc ?_ _));exact BK176.out⟩,⟨by repeat (first|exact HB.out|apply below_alloc|apply pw_below_drewN|apply below_drew1|refine below_set ?_ GE176.out)⟩⟩
                   ·replace c65:=Bool.eq_false_iff.mpr c65
                    subst c65
                    have H1:(some false)=some r:=by rw [if_neg (show ¬ (false=true) by decide)] at H;exact H
                    clear H
                    have H:=H1
                    clear H1
                    obtain rfl:=Option.some.inj H
                    obtain ⟨hcz68_0,hcz68_1,hcz68_2,hcz68_3,hcz68_4,hcz68_5,hcz68_6,hfz68_0,hfz68_1,hfz68_2,hfz68_3,hfz68_4,hfz68_5,hfz68_6⟩:=blkf7 BK176.out
                    try go_wp2
                    have n0_:=Aside0.mk (blk_drew BK176.out)
                    have n1_:=Aside0.mk (below_drew1 HB.out)
                    clear BK176
                    clear HB
                    have BK176:=n0_
                    have HB:=n1_
                    clear n0_ n1_
                    have p192:0≤((ji60):Int):=of_decide_eq_true (by first|(with_reducible assumption)|assumption)
                    have q192:(ji60)<(l0_6.length:Int):=of_decide_eq_true (by first|(with_reducible assumption)|assumption)
                    obtain ⟨ad192,e192,hx192_0,hx192_1,hx192_2⟩:=at_T84 HR0_6.out (ji60) p192 q192
                    have hw192_2:=hx192_2
                    have hw192_1:=hx192_1
                    have hw192_0:=hx192_0
                    cases e192
                    replace hx192_0:=pw_cell_below HB.out hx192_0
                    replace hx192_1:=pw_cell_below HB.out hx192_1
                    replace hx192_2:=pw_cell_below HB.out hx192_2
                    replace p192:=eq_true p192
                    replace q192:=eq_true q192
                    have p193:0≤((ji60):Int):=of_decide_eq_true (by first|(with_reducible assumption)|assumption)
                    have q193:(ji60)<(l0_6.length:Int):=of_decide_eq_true (by first|(with_reducible assumption)|assumption)
                    obtain ⟨ad193,e193,hx193_0,hx193_1,hx193_2⟩:=at_T84 HR0_6.out (ji60) p193 q193
                    have hw193_2:=hx193_2
                    have hw193_1:=hx193_1
                    have hw193_0:=hx193_0
                    obtain rfl:ad192=ad193:=(by injection e193)
                    replace hx193_0:=pw_cell_below HB.out hx193_0
                    replace hx193_1:=pw_cell_below HB.out hx193_1
                    replace hx193_2:=pw_cell_below HB.out hx193_2
                    replace p193:=eq_true p193
                    replace q193:=eq_true q193
                    have p194:0≤(x5_5:Int):=of_decide_eq_true (by first|(with_reducible assumption)|assumption)
                    have q194:x5_5<(l0_6.length:Int):=of_decide_eq_true (by first|(with_reducible assumption)|assumption)
                    obtain ⟨ad194,e194,hx194_0,hx194_1,hx194_2⟩:=at_T84 HR0_6.out x5_5 p194 q194
                    have hw194_2:=hx194_2
                    have hw194_1:=hx194_1
                    have hw194_0:=hx194_0
                    obtain rfl:ad192=ad194:=(by injection e194)
                    replace hx194_0:=pw_cell_below HB.out hx194_0
                    replace hx194_1:=pw_cell_below HB.out hx194_1
                    replace hx194_2:=pw_cell_below HB.out hx194_2
                    replace p194:=eq_true p194
                    replace q194:=eq_true q194
                    have p195:0≤(x5_5:Int):=of_decide_eq_true (by first|(with_reducible assumption)|assumption)
                    have q195:x5_5<(l0_6.length:Int):=of_decide_eq_true (by first|(with_reducible assumption)|assumption)
                    obtain ⟨ad195,e195,hx195_0,hx195_1,hx195_2⟩:=at_T84 HR0_6.out x5_5 p195 q195
                    have hw195_2:=hx195_2
                    have hw195_1:=hx195_1
                    have hw195_0:=hx195_0
                    obtain rfl:ad192=ad195:=(by injection e195)
                    replace hx195_0:=pw_cell_below HB.out hx195_0
                    replace hx195_1:=pw_cell_below HB.out hx195_1
                    replace hx195_2:=pw_cell_below HB.out hx195_2
                    replace p195:=eq_true p195
                    replace q195:=eq_true q195
                    refine start_ (n:=28) (S:=fun w'=>w'.cell? ⟨gb176,0,none⟩=some (.int .i64 a0_0)∧w'.cell? ⟨gb176,1,none⟩=some (.int .i64 a0_1)∧w'.cell? ⟨gb176,2,none⟩=some (.int .i64 a0_2)∧w'.cell? ⟨gb176,3,none⟩=some (.int .i64 a0_3)∧w'.cell? ⟨gb176,4,none⟩=some (.slice A0_4 l0_4.length c0_4)∧w'.cell? ⟨gb176,5,none⟩=some (.slice A0_5 l0_5.length c0_5)∧w'.cell? ⟨gb176,6,none⟩=some (.slice (some ad192) l0_6.length c0_6)∧w'.cell? (ad192.add (((ji60)).toNat*3))=some (.int .i64 ((rd_T84 l0_6 (ji60)).f0))∧w'.cell? ⟨(ad192.add (((ji60)).toNat*3)).block,(ad192.add (((ji60)).toNat*3)).off+1,none⟩=some (.int .i64 ((rd_T84 l0_6 (ji60)).f1))∧w'.cell? ⟨(ad192.add (((ji60)).toNat*3)).block,(ad192.add (((ji60)).toNat*3)).off+2,none⟩=some (.int .i64 ((rd_T84 l0_6 (ji60)).f2))∧w'.cell? (ad192.add (((ji60)).toNat*3))=some (.int .i64 ((rd_T84 l0_6 (ji60)).f0))∧w'.cell? ⟨(ad192.add (((ji60)).toNat*3)).block,(ad192.add (((ji60)).toNat*3)).off+1,none⟩=some (.int .i64 ((rd_T84 l0_6 (ji60)).f1))∧w'.cell? ⟨(ad192.add (((ji60)).toNat*3)).block,(ad192.add (((ji60)).toNat*3)).off+2,none⟩=some (.int .i64 ((rd_T84 l0_6 (ji60)).f2))∧w'.cell? (ad192.add ((x5_5).toNat*3))=some (.int .i64 ((rd_T84 l0_6 x5_5).f0))∧w'.cell? ⟨(ad192.add ((x5_5).toNat*3)).block,(ad192.add ((x5_5).toNat*3)).off+1,none⟩=some (.int .i64 ((rd_T84 l0_6 x5_5).f1))∧w'.cell? ⟨(ad192.add ((x5_5).toNat*3)).block,(ad192.add ((x5_5).toNat*3)).off+2,none⟩=some (.int .i64 ((rd_T84 l0_6 x5_5).f2))∧w'.cell? (ad192.add ((x5_5).toNat*3))=some (.int .i64 ((rd_T84 l0_6 x5_5).f0))∧w'.cell? ⟨(ad192.add ((x5_5).toNat*3)).block,(ad192.add ((x5_5).toNat*3)).off+1,none⟩=some (.int .i64 ((rd_T84 l0_6 x5_5).f1))∧w'.cell? ⟨(ad192.add ((x5_5).toNat*3)).block,(ad192.add ((x5_5).toNat*3)).off+2,none⟩=some (.int .i64 ((rd_T84 l0_6 x5_5).f2))) (ds:=[]) #[false,false,false,false,false,false,false,false,false,false,false,false,false,false,false,false,false,false,false,false,false,false,false,false,false,false,false,false] (by kernel_rfl) rfl rfl ⟨(blk_cell BK176.out 0).trans rfl,(blk_cell BK176.out 1).trans rfl,(blk_cell BK176.out 2).trans rfl,(blk_cell BK176.out 3).trans rfl,(blk_cell BK176.out 4).trans rfl,(blk_cell BK176.out 5).trans rfl,(blk_cell BK176.out 6).trans rfl,((HB.out.cell (World.block_lt_of_cell? w _ hw192_0)).trans hw192_0),((HB.out.cell (World.block_lt_of_cell? w _ hw192_1)).trans hw192_1),((HB.out.cell (World.block_lt_of_cell? w _ hw192_2)).trans hw192_2),((HB.out.cell (World.block_lt_of_cell? w _ hw193_0)).trans hw193_0),((HB.out.cell (World.block_lt_of_cell? w _ hw193_1)).trans hw193_1),((HB.out.cell (World.block_lt_of_cell? w _ hw193_2)).trans hw193_2),((HB.out.cell (World.block_lt_of_cell? w _ hw194_0)).trans hw194_0),((HB.out.cell (World.block_lt_of_cell? w _ hw194_1)).trans hw194_1),((HB.out.cell (World.block_lt_of_cell? w _ hw194_2)).trans hw194_2),((HB.out.cell (World.block_lt_of_cell? w _ hw195_0)).trans hw195_0),((HB.out.cell (World.block_lt_of_cell? w _ hw195_1)).trans hw195_1),((HB.out.cell (World.block_lt_of_cell? w _ hw195_2)).trans hw195_2)⟩ (fun hHeld=>?_);refine with_tabW spec_FontOk.tab20 spec_FontOk.bits20 (fun HT_ HW_=>?_)
                    generalize wr.drew=w69 at BK176 HB hx192_0 hx192_1 hx192_2 hx193_0 hx193_1 hx193_2 hx194_0 hx194_1 hx194_2 hx195_0 hx195_1 hx195_2 hHeld ⊢
                    refine pure_ (i:=0) (N:=some 133) (v:=?_) (a':=?_) #[true,false,false,false,false,false,false,false,false,false,false,false,false,false,false,false,false,false,false,false,false,false,false,false,false,false,false,false] rfl rfl (any_of HT_.out (by kernel_rfl)) (fun _ _ _ h=>h) (Or.inl ⟨by rfl,?_⟩) ?_ ?_
                    rotate_left
                    ·intro w'
                     go_simp
                     with_reducible rfl
                    rotate_left
                    ·simp only [Act.put,List.setIfInBounds_toArray,List.set_cons_zero,List.set_cons_succ,i64_w,i32_w]
                     rfl
                    refine pure_ (i:=2) (N:=some 135) (v:=?_) (a':=?_) #[true,false,true,false,false,false,false,false,false,false,false,false,false,false,false,false,false,false,false,false,false,false,false,false,false,false,false,false] rfl rfl (any_of HT_.out (by kernel_rfl)) (fun _ _ _ h=>h) (Or.inl ⟨by rfl,?_⟩) ?_ ?_
                    rotate_left
                    ·intro w'
                     go_simp
                     with_reducible rfl
                    rotate_left
                    ·simp only [Act.put,List.setIfInBounds_toArray,List.set_cons_zero,List.set_cons_succ,i64_w,i32_w]
                     rfl
                    refine pure_ (i:=3) (N:=some 136) (v:=?_) (a':=?_) #[true,false,true,true,false,false,false,false,false,false,false,false,false,false,false,false,false,false,false,false,false,false,false,false,false,false,false,false] rfl rfl (any_of HT_.out (by kernel_rfl)) (fun _ _ _ h=>h) (Or.inl ⟨by rfl,?_⟩) ?_ ?_
                    rotate_left
                    ·intro w'
                     go_simp
                     with_reducible rfl
                    rotate_left
                    ·simp only [Act.put,List.setIfInBounds_toArray,List.set_cons_zero,List.set_cons_succ,i64_w,i32_w]
                     rfl
                    refine pure_ (i:=7) (N:=some 140) (v:=?_) (a':=?_) #[true,false,true,true,false,false,false,true,false,false,false,false,false,false,false,false,false,false,false,false,false,false,false,false,false,false,false,false] rfl rfl (any_of HT_.out (by kernel_rfl)) (fun _ _ _ h=>h) (Or.inl ⟨by rfl,?_⟩) ?_ ?_
                    rotate_left
                    ·intro w'
                     go_simp
                     with_reducible rfl
                    rotate_left
                    ·simp only [Act.put,List.setIfInBounds_toArray,List.set_cons_zero,List.set_cons_succ,i64_w,i32_w]
                     rfl
                    refine pure_ (i:=9) (N:=some 142) (v:=?_) (a':=?_) #[true,false,true,true,false,false,false,true,false,true,false,false,false,false,false,false,false,false,false,false,false,false,false,false,false,false,false,false] rfl rfl (any_of HT_.out (by kernel_rfl)) (fun _ _ _ h=>h) (Or.inl ⟨by rfl,?_⟩) ?_ ?_
                    rotate_left
                    ·intro w'
                     go_simp
                     with_reducible rfl
                    rotate_left
                    ·simp only [Act.put,List.setIfInBounds_toArray,List.set_cons_zero,List.set_cons_succ,i64_w,i32_w]
                     rfl
                    refine pure_ (i:=10) (N:=some 143) (v:=?_) (a':=?_) #[true,false,true,true,false,false,false,true,false,true,true,false,false,false,false,false,false,false,false,false,false,false,false,false,false,false,false,false] rfl rfl (any_of HT_.out (by kernel_rfl)) (fun _ _ _ h=>h) (Or.inl ⟨by rfl,?_⟩) ?_ ?_
                    rotate_left
                    ·intro w'
                     go_simp
                     with_reducible rfl
                    rotate_left
                    ·simp only [Act.put,List.setIfInBounds_toArray,List.set_cons_zero,List.set_cons_succ,i64_w,i32_w]
                     rfl
                    refine pure_ (i:=14) (N:=some 147) (v:=?_) (a':=?_) #[true,false,true,true,false,false,false,true,false,true,true,false,false,false,true,false,false,false,false,false,false,false,false,false,false,false,false,false] rfl rfl (any_of HT_.out (by kernel_rfl)) (fun _ _ _ h=>h) (Or.inl ⟨by rfl,?_⟩) ?_ ?_
                    rotate_left
                    ·intro w'
                     go_simp
                     with_reducible rfl
                    rotate_left
                    ·simp only [Act.put,List.setIfInBounds_toArray,List.set_cons_zero,List.set_cons_succ,i64_w,i32_w]
                     rfl
                    refine pure_ (i:=16) (N:=some 149) (v:=?_) (a':=?_) #[true,false,true,true,false,false,false,true,false,true,true,false,false,false,true,false,true,false,false,false,false,false,false,false,false,false,false,false] rfl rfl (any_of HT_.out (by kernel_rfl)) (fun _ _ _ h=>h) (Or.inl ⟨by rfl,?_⟩) ?_ ?_
                    rotate_left
                    ·intro w'
                     go_simp
                     with_reducible rfl
                    rotate_left
                    ·simp only [Act.put,List.setIfInBounds_toArray,List.set_cons_zero,List.set_cons_succ,i64_w,i32_w]
                     rfl
                    refine pure_ (i:=20) (N:=some 153) (v:=?_) (a':=?_) #[true,false,true,true,false,false,false,true,false,true,true,false,false,false,true,false,true,false,false,false,true,false,false,false,false,false,false,false] rfl rfl (any_of HT_.out (by kernel_rfl)) (fun _ _ _ h=>h) (Or.inl ⟨by rfl,?_⟩) ?_ ?_
                    rotate_left
                    ·intro w'
                     go_simp
                     with_reducible rfl
                    rotate_left
                    ·simp only [Act.put,List.setIfInBounds_toArray,List.set_cons_zero,List.set_cons_succ,i64_w,i32_w]
                     rfl
                    refine pure_ (i:=22) (N:=some 155) (v:=?_) (a':=?_) #[true,false,true,true,false,false,false,true,false,true,true,false,false,false,true,false,true,false,false,false,true,false,true,false,false,false,false,false] rfl rfl (any_of HT_.out (by kernel_rfl)) (fun _ _ _ h=>h) (Or.inl ⟨by rfl,?_⟩) ?_ ?_
                    rotate_left
                    ·intro w'
                     go_simp
                     with_reducible rfl
                    rotate_left
                    ·simp only [Act.put,List.setIfInBounds_toArray,List.set_cons_zero,List.set_cons_succ,i64_w,i32_w]
                     rfl
                    refine take_ (i:=1) (N:=some 134) (v:=?_) (a':=?_) #[true,true,true,true,false,false,false,true,false,true,true,false,false,false,true,false,true,false,false,false,true,false,true,false,false,false,false,false] rfl rfl (take_ofW HT_.out HW_.out (by kernel_rfl)) (fun _ _ _ h=>h) (Or.inl ⟨by rfl,?_⟩) hHeld ?_ ?_
                    rotate_left
                    ·rintro w' ⟨s0,s1,s2,s3,s4,s5,s6,s7,s8,s9,s10,s11,s12,s13,s14,s15,s16,s17,s18⟩
                     go_simp
                     with_reducible rfl
                    rotate_left
                    ·simp only [Act.put,List.setIfInBounds_toArray,List.set_cons_zero,List.set_cons_succ,i64_w,i32_w]
                     rfl
                    refine pure_ (i:=4) (N:=some 137) (v:=?_) (a':=?_) #[true,true,true,true,true,false,false,true,false,true,true,false,false,false,true,false,true,false,false,false,true,false,true,false,false,false,false,false] rfl rfl (any_of HT_.out (by kernel_rfl)) (fun _ _ _ h=>h) (Or.inl ⟨by rfl,?_⟩) ?_ ?_
                    rotate_left
                    ·intro w'
                     go_simp
                     with_reducible rfl
                    rotate_left
                    ·simp only [Act.put,List.setIfInBounds_toArray,List.set_cons_zero,List.set_cons_succ,i64_w,i32_w]
                     rfl
                    refine pure_ (i:=5) (N:=some 138) (v:=?_) (a':=?_) #[true,true,true,true,true,true,false,true,false,true,true,false,false,false,true,false,true,false,false,false,true,false,true,false,false,false,false,false] rfl rfl (any_of HT_.out (by kernel_rfl)) (fun _ _ _ h=>h) (Or.inl ⟨by rfl,?_⟩) ?_ ?_
                    rotate_left
                    ·intro w'
                     go_simp
                     with_reducible rfl
                    rotate_left
                    ·simp only [Act.put,List.setIfInBounds_toArray,List.set_cons_zero,List.set_cons_succ,i64_w,i32_w]
                     rfl
                    refine take_ (i:=6) (N:=some 139) (v:=?_) (a':=?_) #[true,true,true,true,true,true,true,true,false,true,true,false,false,false,true,false,true,false,false,false,true,false,true,false,false,false,false,false] rfl rfl (take_ofW HT_.out HW_.out (by kernel_rfl)) (fun _ _ _ h=>h) (Or.inl ⟨by rfl,?_⟩) hHeld ?_ ?_
                    rotate_left
                    ·rintro w' ⟨s0,s1,s2,s3,s4,s5,s6,s7,s8,s9,s10,s11,s12,s13,s14,s15,s16,s17,s18⟩
                     go_simp
                     with_reducible rfl
                    rotate_left
                    ·simp only [Act.put,List.setIfInBounds_toArray,List.set_cons_zero,List.set_cons_succ,i64_w,i32_w]
                     rfl
                    refine take_ (i:=8) (N:=some 141) (v:=?_) (a':=?_) #[true,true,true,true,true,true,true,true,true,true,true,false,false,false,true,false,true,false,false,false,true,false,true,false,false,false,false,false] rfl rfl (take_ofW HT_.out HW_.out (by kernel_rfl)) (fun _ _ _ h=>h) (Or.inl ⟨by rfl,?_⟩) hHeld ?_ ?_
                    rotate_left
                    ·rintro w' ⟨s0,s1,s2,s3,s4,s5,s6,s7,s8,s9,s10,s11,s12,s13,s14,s15,s16,s17,s18⟩
                     go_simp
                     with_reducible rfl
                    rotate_left
                    ·simp only [Act.put,List.setIfInBounds_toArray,List.set_cons_zero,List.set_cons_succ,i64_w,i32_w]
                     rfl
                    refine pure_ (i:=11) (N:=some 144) (v:=?_) (a':=?_) #[true,true,true,true,true,true,true,true,true,true,true,true,false,false,true,false,true,false,false,false,true,false,true,false,false,false,false,false] rfl rfl (any_of HT_.out (by kernel_rfl)) (fun _ _ _ h=>h) (Or.inl ⟨by rfl,?_⟩) ?_ ?_
                    rotate_left
                    ·intro w'
                     go_simp
                     with_reducible rfl
                    rotate_left
                    ·simp only [Act.put,List.setIfInBounds_toArray,List.set_cons_zero,List.set_cons_succ,i64_w,i32_w]
                     rfl
                    refine pure_ (i:=12) (N:=some 145) (v:=?_) (a':=?_) #[true,true,true,true,true,true,true,true,true,true,true,true,true,false,true,false,true,false,false,false,true,false,true,false,false,false,false,false] rfl rfl (any_of HT_.out (by kernel_rfl)) (fun _ _ _ h=>h) (Or.inl ⟨by rfl,?_⟩) ?_ ?_
                    rotate_left
                    ·intro w'
                     go_simp
                     with_reducible rfl
                    rotate_left
                    ·simp only [Act.put,List.setIfInBounds_toArray,List.set_cons_zero,List.set_cons_succ,i64_w,i32_w]
                     rfl
                    refine take_ (i:=13) (N:=some 146) (v:=?_) (a':=?_) #[true,true,true,true,true,true,true,true,true,true,true,true,true,true,true,false,true,false,false,false,true,false,true,false,false,false,false,false] rfl rfl (take_ofW HT_.out HW_.out (by kernel_rfl)) (fun _ _ _ h=>h) (Or.inl ⟨by rfl,?_⟩) hHeld ?_ ?_
                    rotate_left
                    ·rintro w' ⟨s0,s1,s2,s3,s4,s5,s6,s7,s8,s9,s10,s11,s12,s13,s14,s15,s16,s17,s18⟩
                     go_simp
                     with_reducible rfl
                    rotate_left
                    ·simp only [Act.put,List.setIfInBounds_toArray,List.set_cons_zero,List.set_cons_succ,i64_w,i32_w]
                     rfl
                    refine take_ (i:=15) (N:=some 148) (v:=?_) (a':=?_) #[true,true,true,true,true,true,true,true,true,true,true,true,true,true,true,true,true,false,false,false,true,false,true,false,false,false,false,false] rfl rfl (take_ofW HT_.out HW_.out (by kernel_rfl)) (fun _ _ _ h=>h) (Or.inl ⟨by rfl,?_⟩) hHeld ?_ ?_
                    rotate_left
                    ·rintro w' ⟨s0,s1,s2,s3,s4,s5,s6,s7,s8,s9,s10,s11,s12,s13,s14,s15,s16,s17,s18⟩
                     go_simp
                     with_reducible rfl
                    rotate_left
                    ·simp only [Act.put,List.setIfInBounds_toArray,List.set_cons_zero,List.set_cons_succ,i64_w,i32_w]
                     rfl
                    refine pure_ (i:=17) (N:=some 150) (v:=?_) (a':=?_) #[true,true,true,true,true,true,true,true,true,true,true,true,true,true,true,true,true,true,false,false,true,false,true,false,false,false,false,false] rfl rfl (any_of HT_.out (by kernel_rfl)) (fun _ _ _ h=>h) (Or.inl ⟨by rfl,?_⟩) ?_ ?_
                    rotate_left
                    ·intro w'
                     go_simp
                     with_reducible rfl
                    rotate_left
                    ·simp only [Act.put,List.setIfInBounds_toArray,List.set_cons_zero,List.set_cons_succ,i64_w,i32_w]
                     rfl
                    refine pure_ (i:=18) (N:=some 151) (v:=?_) (a':=?_) #[true,true,true,true,true,true,true,true,true,true,true,true,true,true,true,true,true,true,true,false,true,false,true,false,false,false,false,false] rfl rfl (any_of HT_.out (by kernel_rfl)) (fun _ _ _ h=>h) (Or.inl ⟨by rfl,?_⟩) ?_ ?_
                    rotate_left
                    ·intro w'
                     go_simp
                     with_reducible rfl
                    rotate_left
                    ·simp only [Act.put,List.setIfInBounds_toArray,List.set_cons_zero,List.set_cons_succ,i64_w,i32_w]
                     rfl
                    refine take_ (i:=19) (N:=some 152) (v:=?_) (a':=?_) #[true,true,true,true,true,true,true,true,true,true,true,true,true,true,true,true,true,true,true,true,true,false,true,false,false,false,false,false] rfl rfl (take_ofW HT_.out HW_.out (by kernel_rfl)) (fun _ _ _ h=>h) (Or.inl ⟨by rfl,?_⟩) hHeld ?_ ?_
                    rotate_left
                    ·rintro w' ⟨s0,s1,s2,s3,s4,s5,s6,s7,s8,s9,s10,s11,s12,s13,s14,s15,s16,s17,s18⟩
                     go_simp
                     with_reducible rfl
                    rotate_left
                    ·simp only [Act.put,List.setIfInBounds_toArray,List.set_cons_zero,List.set_cons_succ,i64_w,i32_w]
                     rfl
                    refine take_ (i:=21) (N:=some 154) (v:=?_) (a':=?_) #[true,true,true,true,true,true,true,true,true,true,true,true,true,true,true,true,true,true,true,true,true,true,true,false,false,false,false,false] rfl rfl (take_ofW HT_.out HW_.out (by kernel_rfl)) (fun _ _ _ h=>h) (Or.inl ⟨by rfl,?_⟩) hHeld ?_ ?_
                    rotate_left
                    ·rintro w' ⟨s0,s1,s2,s3,s4,s5,s6,s7,s8,s9,s10,s11,s12,s13,s14,s15,s16,s17,s18⟩
                     go_simp
                     with_reducible rfl
                    rotate_left
                    ·simp only [Act.put,List.setIfInBounds_toArray,List.set_cons_zero,List.set_cons_succ,i64_w,i32_w]
                     rfl
                    refine pure_ (i:=23) (N:=some 156) (v:=?_) (a':=?_) #[true,true,true,true,true,true,true,true,true,true,true,true,true,true,true,true,true,true,true,true,true,true,true,true,false,false,false,false] rfl rfl (any_of HT_.out (by kernel_rfl)) (fun _ _ _ h=>h) (Or.inl ⟨by rfl,?_⟩) ?_ ?_
                    rotate_left
                    ·intro w'
                     go_simp
                     with_reducible rfl
                    rotate_left
                    ·simp only [Act.put,List.setIfInBounds_toArray,List.set_cons_zero,List.set_cons_succ,i64_w,i32_w]
                     rfl
                    refine pure_ (i:=24) (N:=some 157) (v:=?_) (a':=?_) #[true,true,true,true,true,true,true,true,true,true,true,true,true,true,true,true,true,true,true,true,true,true,true,true,true,false,false,false] rfl rfl (any_of HT_.out (by kernel_rfl)) (fun _ _ _ h=>h) (Or.inl ⟨by rfl,?_⟩) ?_ ?_
                    rotate_left
                    ·intro w'
                     go_simp
                     with_reducible rfl
                    rotate_left
                    ·simp only [Act.put,List.setIfInBounds_toArray,List.set_cons_zero,List.set_cons_succ,i64_w,i32_w]
                     rfl
                    refine take_ (i:=25) (N:=some 158) (v:=?_) (a':=?_) #[true,true,true,true,true,true,true,true,true,true,true,true,true,true,true,true,true,true,true,true,true,true,true,true,true,true,false,false] rfl rfl (take_ofW HT_.out HW_.out (by kernel_rfl)) (fun _ _ _ h=>h) (Or.inl ⟨by rfl,?_⟩) hHeld ?_ ?_
                    rotate_left
                    ·rintro w' ⟨s0,s1,s2,s3,s4,s5,s6,s7,s8,s9,s10,s11,s12,s13,s14,s15,s16,s17,s18⟩
                     go_simp
                     with_reducible rfl
                    rotate_left
                    ·simp only [Act.put,List.setIfInBounds_toArray,List.set_cons_zero,List.set_cons_succ,i64_w,i32_w]
                     rfl
                    refine one_ (i:=26) (N:=some 159) #[true,true,true,true,true,true,true,true,true,true,true,true,true,true,true,true,true,true,true,true,true,true,true,true,true,true,true,false] rfl rfl (one_of HT_.out (by kernel_rfl)) (by decide) (fun K hK=>?_)
                    refine goes_ Try.func53 (by kernel_rfl) rfl #[.int .i64 ((rd_T84 l0_6 (ji60)).f0),.int .i64 ((rd_T84 l0_6 (ji60)).f1),.int .i64 ((rd_T84 l0_6 x5_5).f0),.int .i64 ((rd_T84 l0_6 x5_5).f1)] (by rfl) rfl rfl (by (try simp only [List.map_toArray,List.map_cons,List.map_nil]);first|done|(simp only [hji60];rfl)|rfl|(simp only [List.length_drop,List.length_take];rfl)) ?_
                    with_reducible refine (spec_l12Less.calls ((rd_T84 l0_6 (ji60)).f0) ((rd_T84 l0_6 (ji60)).f1) ((rd_T84 l0_6 x5_5).f0) ((rd_T84 l0_6 x5_5).f1) false _ A64.out).mono ?_
                    rintro e w' ⟨rfl,⟨nd,rfl⟩⟩
                    refine ⟨_,rfl,?_⟩
                    refine hK.out _ _ ⟨(blk_cell BK176.out 0).trans rfl,(blk_cell BK176.out 1).trans rfl,(blk_cell BK176.out 2).trans rfl,(blk_cell BK176.out 3).trans rfl,(blk_cell BK176.out 4).trans rfl,(blk_cell BK176.out 5).trans rfl,(blk_cell BK176.out 6).trans rfl,((HB.out.cell (World.block_lt_of_cell? w _ hw192_0)).trans hw192_0),((HB.out.cell (World.block_lt_of_cell? w _ hw192_1)).trans hw192_1),((HB.out.cell (World.block_lt_of_cell? w _ hw192_2)).trans hw192_2),((HB.out.cell (World.block_lt_of_cell? w _ hw193_0)).trans hw193_0),((HB.out.cell (World.block_lt_of_cell? w _ hw193_1)).trans hw193_1),((HB.out.cell (World.block_lt_of_cell? w _ hw193_2)).trans hw193_2),((HB.out.cell (World.block_lt_of_cell? w _ hw194_0)).trans hw194_0),((HB.out.cell (World.block_lt_of_cell? w _ hw194_1)).trans hw194_1),((HB.out.cell (World.block_lt_of_cell? w _ hw194_2)).trans hw194_2),((HB.out.cell (World.block_lt_of_cell? w _ hw195_0)).trans hw195_0),((HB.out.cell (World.block_lt_of_cell? w _ hw195_1)).trans hw195_1),((HB.out.cell (World.block_lt_of_cell? w _ hw195_2)).trans hw195_2)⟩ (fun hHeld=>?_)
                    clear hK K
                    refine norm_ (a':=?_) ?_ ?_
                    rotate_left
                    ·show Act.put _ (some 159) _=_
                     simp only [Act.put,List.setIfInBounds_toArray,List.set_cons_zero,List.set_cons_succ,i64_w,i32_w]
                     rfl
                    refine pure_ (i:=27) (N:=some 160) (v:=?_) (a':=?_) #[true,true,true,true,true,true,true,true,true,true,true,true,true,true,true,true,true,true,true,true,true,true,true,true,true,true,true,true] rfl rfl (any_of HT_.out (by kernel_rfl)) (fun _ _ _ h=>h) (Or.inl ⟨by rfl,?_⟩) ?_ ?_
                    rotate_left
                    ·intro w'
                     go_simp
                     with_reducible rfl
                    rotate_left
                    ·simp only [Act.put,List.setIfInBounds_toArray,List.set_cons_zero,List.set_cons_succ,i64_w,i32_w]
                     rfl
                    refine done_ (done_of HT_.out (by kernel_rfl)) ?_
                    try go_wp2
                    go_ret
                    exact ⟨by first|rfl|(simp [errW_none,errW_some]<;>rfl)|(simp only [← hji60];first|rfl|(simp [errW_none,errW_some]<;>rfl))|(simp [*,errW_none,errW_some]<;>rfl),by repeat (first|exact HB.out|apply below_alloc|apply pw_below_drewN|apply below_drew1|refine below_set ?_ GE176.out)⟩
                  ·rw [if_neg c63] at H
                   exact absurd H (by simp)
                 ·rw [if_neg c62] at H
                  exact absurd H (by simp)
                ·rw [if_neg c61] at H
                 exact absurd H (by simp)
               ·rw [if_neg c59] at H
                have c59b0:decide (x5_5<(l0_6.length:Int))=false:=decide_eq_false c59
                clear c59
                obtain rfl:=Option.some.inj H
                obtain ⟨hcz70_0,hcz70_1,hcz70_2,hcz70_3,hcz70_4,hcz70_5,hcz70_6,hfz70_0,hfz70_1,hfz70_2,hfz70_3,hfz70_4,hfz70_5,hfz70_6⟩:=blkf7 BK176.out
                go_wp2
                go_ret
                exact ⟨by first|rfl|(simp [errW_none,errW_some]<;>rfl)|(simp [*,errW_none,errW_some]<;>rfl),by repeat (first|exact HB.out|apply below_alloc|apply pw_below_drewN|apply below_drew1|refine below_set ?_ GE176.out)⟩
end Go.Proofs.Ytiinihponcojkaa.QFnExactAdvance
