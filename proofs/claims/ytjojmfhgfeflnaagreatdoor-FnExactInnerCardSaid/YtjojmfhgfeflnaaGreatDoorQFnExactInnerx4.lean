/- Written by a program (wip/tools/own_print.py) out of the walk that the kit's printer made; turned where it fell. -/
-- PRINTED by print.py (a twelfth state) out of the translation. Not trusted: Lean checks it.
import Derived.Test.YtjojmfhgfeflnaaGreatDoorQFnExactInnerx0
import Derived.Test.YtjojmfhgfeflnaaGreatDoorQFnExactInnerx3
namespace Go.Proofs.YtjojmfhgfeflnaaGreatDoor.QFnExactInner
open Go.RowKit Go.Proofs.YtjojmfhgfeflnaaGreatDoorV.PrintWords Go.Proofs.YtjojmfhgfeflnaaGreatDoorV.PrintLast Go.Proofs.YtjojmfhgfeflnaaGreatDoorV.PrintMore
attribute [local go_sem] max2_int min2_int max_two min_two max_three min_three max_four min_four   -- for this text's walks alone
set_option linter.unusedVariables false
set_option linter.unusedSimpArgs false
/-! ### spec_l3NodeOk: function 24 -/
mutual
def spec_l3NodeOk.j0:Nat→Bool→Int→Int→ByteArray→List (S77)→ByteArray→Int→Option (Bool)
 |0,_,_,_,_,_,_,_=>none
 |k+1,x20,x164000,x164001,x164002,x164003,x164004,x164005=>if x20=true then (some false) else (if x164001=1 then (if x164002.toList=([]:List UInt8) then (if x164004.toList=([]:List UInt8) then (some ((x164003.length:Int)==0)) else (some false)) else (some false)) else (if x164001=2 then (spec_l3NodeOk.l0 k 0 x164000 x164001 x164002 x164003 x164004 x164005) else (if x164001=3 then (if x164002.toList=([]:List UInt8) then (if x164004.toList=([]:List UInt8) then (some false) else (if (x164003.length:Int)=0 then (some (x164005==0)) else (some false))) else (some false)) else (if x164001=4 then (if x164002.toList=([]:List UInt8) then (if (x164003.length:Int)=0 then (some (x164005==0)) else (some false)) else (some false)) else (if x164001=5 then (if x164004.toList=([]:List UInt8) then (if (x164003.length:Int)=0 then (some (x164005==0)) else (some false)) else (some false)) else (some false))))))
def spec_l3NodeOk.l0:Nat→Int→Int→Int→ByteArray→List (S77)→ByteArray→Int→Option (Bool)
 |0,_,_,_,_,_,_,_=>none
 |k+1,x5,x164000,x164001,x164002,x164003,x164004,x164005=>if x5<(x164003.length:Int) then (if 0≤x5 then (if ((rd_T77 x164003 x5).f0).toList=([]:List UInt8) then (some false) else (if x5≤(x164003.length:Int) then ((spec_l2Has.f k (x164003.take (x5:Int).toNat) ((rd_T77 x164003 x5).f0)).bind fun t170=>(if t170=true then (some false) else (spec_l3NodeOk.l0 k (wrap64 (x5+1)) x164000 x164001 x164002 x164003 x164004 x164005))) else (none))) else (none)) else (if x164002.toList=([]:List UInt8) then (some false) else (some (x164004.toList==([]:List UInt8))))
end
def spec_l3NodeOk.f (k:Nat) (a0_0:Int) (a0_1:Int) (a0_2:ByteArray) (l0_3:List (S77)) (a0_4:ByteArray) (a0_5:Int) (a1:Bool):Option (Bool):=if a0_0<0 then (spec_l3NodeOk.j0 k true a0_0 a0_1 a0_2 l0_3 a0_4 a0_5) else (if a0_0 > 1000000 then (spec_l3NodeOk.j0 k true a0_0 a0_1 a0_2 l0_3 a0_4 a0_5) else (spec_l3NodeOk.j0 k ((a0_1==1) != a1) a0_0 a0_1 a0_2 l0_3 a0_4 a0_5))
theorem spec_l3NodeOk.mono_l:∀ k,(∀ y0 y1 y2 y3 y4 y5 y6,LeO (spec_l3NodeOk.j0 k y0 y1 y2 y3 y4 y5 y6) (spec_l3NodeOk.j0 (k+1) y0 y1 y2 y3 y4 y5 y6))∧(∀ y0 y1 y2 y3 y4 y5 y6,LeO (spec_l3NodeOk.l0 k y0 y1 y2 y3 y4 y5 y6) (spec_l3NodeOk.l0 (k+1) y0 y1 y2 y3 y4 y5 y6))
 |0=>⟨fun _ _ _ _ _ _ _ r h=>by simp [spec_l3NodeOk.j0] at h,fun _ _ _ _ _ _ _ r h=>by simp [spec_l3NodeOk.l0] at h⟩
 |k+1=>by
  obtain ⟨ih0,ih1⟩:=spec_l3NodeOk.mono_l k
  refine ⟨?_,?_⟩
  ·intro y0 y1 y2 y3 y4 y5 y6
   unfold spec_l3NodeOk.j0
   repeat' first
   |(with_reducible exact ih0 _ _ _ _ _ _ _)
   |(with_reducible exact ih1 _ _ _ _ _ _ _)
   |(with_reducible exact spec_l2Has.mono _ _ _)
   |(with_reducible exact LeO.refl _)
   |(with_reducible exact LeO.none _)
   |(with_reducible refine LeO.ite ?_ ?_)
   |(with_reducible refine LeO.bind ?_ (fun _=>?_))
   |exact ih0 _ _ _ _ _ _ _
   |exact ih1 _ _ _ _ _ _ _
   |exact spec_l2Has.mono _ _ _
   |exact LeO.none _
   |refine LeO.ite ?_ ?_
   |refine LeO.bind ?_ (fun _=>?_)
  ·intro y0 y1 y2 y3 y4 y5 y6
   unfold spec_l3NodeOk.l0
   repeat' first
   |(with_reducible exact ih0 _ _ _ _ _ _ _)
   |(with_reducible exact ih1 _ _ _ _ _ _ _)
   |(with_reducible exact spec_l2Has.mono _ _ _)
   |(with_reducible exact LeO.refl _)
   |(with_reducible exact LeO.none _)
   |(with_reducible refine LeO.ite ?_ ?_)
   |(with_reducible refine LeO.bind ?_ (fun _=>?_))
   |exact ih0 _ _ _ _ _ _ _
   |exact ih1 _ _ _ _ _ _ _
   |exact spec_l2Has.mono _ _ _
   |exact LeO.none _
   |refine LeO.ite ?_ ?_
   |refine LeO.bind ?_ (fun _=>?_)
theorem spec_l3NodeOk.mono:∀ a0 a1 a2 a3 a4 a5 a6 k,LeO (spec_l3NodeOk.f k a0 a1 a2 a3 a4 a5 a6) (spec_l3NodeOk.f (k+1) a0 a1 a2 a3 a4 a5 a6):=by
 intro a0 a1 a2 a3 a4 a5 a6 k
 obtain ⟨ih0,ih1⟩:=spec_l3NodeOk.mono_l k
 unfold spec_l3NodeOk.f
 repeat' first
   |(with_reducible exact ih0 _ _ _ _ _ _ _)
   |(with_reducible exact ih1 _ _ _ _ _ _ _)
   |(with_reducible exact spec_l2Has.mono _ _ _)
   |(with_reducible exact LeO.refl _)
   |(with_reducible exact LeO.none _)
   |(with_reducible refine LeO.ite ?_ ?_)
   |(with_reducible refine LeO.bind ?_ (fun _=>?_))
   |exact ih0 _ _ _ _ _ _ _
   |exact ih1 _ _ _ _ _ _ _
   |exact spec_l2Has.mono _ _ _
   |exact LeO.none _
   |refine LeO.ite ?_ ?_
   |refine LeO.bind ?_ (fun _=>?_)
set_option maxHeartbeats 8000000 in
set_option maxRecDepth 100000 in
theorem spec_l3NodeOk.calls (k:Nat) (a0_0:Int) (a0_1:Int) (a0_2:ByteArray) (A0_3:Option Addr) (c0_3:Nat) (l0_3:List (S77)) (a0_4:ByteArray) (a0_5:Int) (a1:Bool) (r:Bool) (w:World) (hr0_3:Kd.C k77 w A0_3 l0_3.length l0_3) (hc0_3:l0_3.length≤c0_3) (h:spec_l3NodeOk.f k a0_0 a0_1 a0_2 l0_3 a0_4 a0_5 a1=some r) :
  Calls Tryz.prog 24 #[.agg #[.int .i64 a0_0,.int .i64 a0_1,.string a0_2,.slice A0_3 l0_3.length c0_3,.string a0_4,.int .i64 a0_5],.bool a1] w fun e w'=>e=.returned (.bool r)∧Below w.heap.size w w':=by
 have hu57:=Tryz.underlying57
 have HR0_3:=Aside0.mk hr0_3
 have HC0_3:=Aside0.mk hc0_3
 clear hr0_3 hc0_3
 have HB:=Aside0.mk (Below.refl w.heap.size w)
 have H:(if a0_0<0 then (spec_l3NodeOk.j0 k true a0_0 a0_1 a0_2 l0_3 a0_4 a0_5) else (if a0_0 > 1000000 then (spec_l3NodeOk.j0 k true a0_0 a0_1 a0_2 l0_3 a0_4 a0_5) else (spec_l3NodeOk.j0 k ((a0_1==1) != a1) a0_0 a0_1 a0_2 l0_3 a0_4 a0_5)))=some r:=h
 clear h
 have HC3:=Aside0.mk H
 clear H
 go_enter Tryz.func24,Tryz.ntmps24
 go_upto_region 1 with (first|((with_reducible refine gate_dst (N:=2) rfl ?_);(try (refine gate_guard (by rfl) ?_;dsimp only));refine box_event ?hg (N:=2) ?hd (cs:=#[.int .i64 a0_0,.int .i64 a0_1,.string a0_2,.slice A0_3 l0_3.length c0_3,.string a0_4,.int .i64 a0_5]) (t:=57) ?hr ?_;(case hd=>rfl);(case hg=>rfl);(case hr=>first|(go_simp;done)|(go_simp;rfl));intro gb163 hg w4 hbox hb;have n0_:=Aside0.mk (below_step (by repeat (first|(with_reducible first|exact HB.out|apply below_alloc|apply pw_below_drewN|apply below_drew1)|exact HB.out)) hb);have n1_:=Aside0.mk (hbox);have n2_:=Aside0.mk ((by rw [hg];exact (below_size (by repeat (first|(with_reducible first|exact HB.out|apply below_alloc|apply pw_below_drewN|apply below_drew1)|exact HB.out))):w.heap.size≤gb163));have n3_:=Aside0.mk ((by rw [hg];exact (below_size (by repeat (first|(with_reducible first|exact HB.out|apply below_alloc|apply pw_below_drewN|apply below_drew1)|exact HB.out))):w.heap.size≤gb163));clear HB;have HB:=n0_;have BK163:=n1_;have GW163:=n2_;have GE163:=n3_;clear n0_ n1_ n2_ n3_;clear hb hbox hg))
 repeat (go_quiet (first|((with_reducible refine gate_dst (N:=2) rfl ?_);(try (refine gate_guard (by rfl) ?_;dsimp only));refine box_event ?hg (N:=2) ?hd (cs:=#[.int .i64 a0_0,.int .i64 a0_1,.string a0_2,.slice A0_3 l0_3.length c0_3,.string a0_4,.int .i64 a0_5]) (t:=57) ?hr ?_;(case hd=>rfl);(case hg=>rfl);(case hr=>first|(go_simp;done)|(go_simp;rfl));intro gb163 hg w4 hbox hb;have n0_:=Aside0.mk (below_step (by repeat (first|(with_reducible first|exact HB.out|apply below_alloc|apply pw_below_drewN|apply below_drew1)|exact HB.out)) hb);have n1_:=Aside0.mk (hbox);have n2_:=Aside0.mk ((by rw [hg];exact (below_size (by repeat (first|(with_reducible first|exact HB.out|apply below_alloc|apply pw_below_drewN|apply below_drew1)|exact HB.out))):w.heap.size≤gb163));have n3_:=Aside0.mk ((by rw [hg];exact (below_size (by repeat (first|(with_reducible first|exact HB.out|apply below_alloc|apply pw_below_drewN|apply below_drew1)|exact HB.out))):w.heap.size≤gb163));clear HB;have HB:=n0_;have BK163:=n1_;have GW163:=n2_;have GE163:=n3_;clear n0_ n1_ n2_ n3_;clear hb hbox hg));go_upto_region 1 with (first|((with_reducible refine gate_dst (N:=2) rfl ?_);(try (refine gate_guard (by rfl) ?_;dsimp only));refine box_event ?hg (N:=2) ?hd (cs:=#[.int .i64 a0_0,.int .i64 a0_1,.string a0_2,.slice A0_3 l0_3.length c0_3,.string a0_4,.int .i64 a0_5]) (t:=57) ?hr ?_;(case hd=>rfl);(case hg=>rfl);(case hr=>first|(go_simp;done)|(go_simp;rfl));intro gb163 hg w4 hbox hb;have n0_:=Aside0.mk (below_step (by repeat (first|(with_reducible first|exact HB.out|apply below_alloc|apply pw_below_drewN|apply below_drew1)|exact HB.out)) hb);have n1_:=Aside0.mk (hbox);have n2_:=Aside0.mk ((by rw [hg];exact (below_size (by repeat (first|(with_reducible first|exact HB.out|apply below_alloc|apply pw_below_drewN|apply below_drew1)|exact HB.out))):w.heap.size≤gb163));have n3_:=Aside0.mk ((by rw [hg];exact (below_size (by repeat (first|(with_reducible first|exact HB.out|apply below_alloc|apply pw_below_drewN|apply below_drew1)|exact HB.out))):w.heap.size≤gb163));clear HB;have HB:=n0_;have BK163:=n1_;have GW163:=n2_;have GE163:=n3_;clear n0_ n1_ n2_ n3_;clear hb hbox hg)))
 (try simp only [Act.put,List.setIfInBounds_toArray,List.set_cons_zero,List.set_cons_succ])
 go_cut [20] (fun v20 wc=>∃ (kq:Nat) (x20_2:Bool),v20=.bool x20_2∧Aside0 (spec_l3NodeOk.j0 kq x20_2 a0_0 a0_1 a0_2 l0_3 a0_4 a0_5=some r)∧Aside0 (kq≤k)∧Aside0 (wc.heap[gb163]?=some (.cells #[.int .i64 a0_0,.int .i64 a0_1,.string a0_2,(.slice A0_3 l0_3.length c0_3),.string a0_4,.int .i64 a0_5] 57 (0,0)))∧Aside0 (Below w.heap.size w wc))
 case first=>
  have H:=HC3.out
  clear HC3
  by_cases c5:a0_0<0
  ·rw [if_pos c5] at H
   have c5b0:decide (a0_0<0)=true:=decide_eq_true c5
   clear c5
   (first|rw [c5b0]|(simp only [i64_w,i32_w];rw [c5b0])|rw [c5b1]|skip)
   have H':=Aside0.mk H
   clear H
   have hcz6_0:w4.cell? ⟨gb163,0,none⟩=some (.int .i64 a0_0):=(blk_cell BK163.out 0).trans rfl
   have hcz6_1:w4.cell? ⟨gb163,1,none⟩=some (.int .i64 a0_1):=(blk_cell BK163.out 1).trans rfl
   have hcz6_2:w4.cell? ⟨gb163,2,none⟩=some (.string a0_2):=(blk_cell BK163.out 2).trans rfl
   have hcz6_3:w4.cell? ⟨gb163,3,none⟩=some (.slice A0_3 l0_3.length c0_3):=(blk_cell BK163.out 3).trans rfl
   have hcz6_4:w4.cell? ⟨gb163,4,none⟩=some (.string a0_4):=(blk_cell BK163.out 4).trans rfl
   have hcz6_5:w4.cell? ⟨gb163,5,none⟩=some (.int .i64 a0_5):=(blk_cell BK163.out 5).trans rfl
   have hfz6_0:=blk_frozen BK163.out 0
   have hfz6_1:=blk_frozen BK163.out 1
   have hfz6_2:=blk_frozen BK163.out 2
   have hfz6_3:=blk_frozen BK163.out 3
   have hfz6_4:=blk_frozen BK163.out 4
   have hfz6_5:=blk_frozen BK163.out 5
   go_wp2
   repeat (go_quiet (fail);try go_wp2)
   go_meet
   case rel=>exact ⟨_,(true),(by first|rfl|(simp;done)|(simp [*];done)),H',⟨by first|omega|exact Nat.le_refl _⟩,⟨by (with_reducible repeat (first|refine blk_drewN ?_ _|refine blk_drew ?_|refine blk_alloc ?_ _));exact BK163.out⟩,⟨by repeat (first|(with_reducible first|exact HB.out|apply below_alloc|apply pw_below_drewN|apply below_drew1|refine below_set ?_ GE163.out)|exact HB.out)⟩⟩
  ·rw [if_neg c5] at H
   have c5b0:decide (a0_0<0)=false:=decide_eq_false c5
   clear c5
   (first|rw [c5b0]|(simp only [i64_w,i32_w];rw [c5b0])|rw [c5b1]|skip)
   by_cases c7:a0_0 > 1000000
   ·rw [if_pos c7] at H
    have c7b0:decide (1000000<a0_0)=true:=decide_eq_true c7
    clear c7
    have H':=Aside0.mk H
    clear H
    have hcz8_0:w4.cell? ⟨gb163,0,none⟩=some (.int .i64 a0_0):=(blk_cell BK163.out 0).trans rfl
    have hcz8_1:w4.cell? ⟨gb163,1,none⟩=some (.int .i64 a0_1):=(blk_cell BK163.out 1).trans rfl
    have hcz8_2:w4.cell? ⟨gb163,2,none⟩=some (.string a0_2):=(blk_cell BK163.out 2).trans rfl
    have hcz8_3:w4.cell? ⟨gb163,3,none⟩=some (.slice A0_3 l0_3.length c0_3):=(blk_cell BK163.out 3).trans rfl
    have hcz8_4:w4.cell? ⟨gb163,4,none⟩=some (.string a0_4):=(blk_cell BK163.out 4).trans rfl
    have hcz8_5:w4.cell? ⟨gb163,5,none⟩=some (.int .i64 a0_5):=(blk_cell BK163.out 5).trans rfl
    have hfz8_0:=blk_frozen BK163.out 0
    have hfz8_1:=blk_frozen BK163.out 1
    have hfz8_2:=blk_frozen BK163.out 2
    have hfz8_3:=blk_frozen BK163.out 3
    have hfz8_4:=blk_frozen BK163.out 4
    have hfz8_5:=blk_frozen BK163.out 5
    go_wp2
    repeat (go_quiet (fail);try go_wp2)
    go_meet
    case rel=>exact ⟨_,(true),(by first|rfl|(simp;done)|(simp [*];done)),H',⟨by first|omega|exact Nat.le_refl _⟩,⟨by (with_reducible repeat (first|refine blk_drewN ?_ _|refine blk_drew ?_|refine blk_alloc ?_ _));exact BK163.out⟩,⟨by repeat (first|(with_reducible first|exact HB.out|apply below_alloc|apply pw_below_drewN|apply below_drew1|refine below_set ?_ GE163.out)|exact HB.out)⟩⟩
   ·rw [if_neg c7] at H
    have c7b0:decide (1000000<a0_0)=false:=decide_eq_false c7
    clear c7
    have H':=Aside0.mk H
    clear H
    have hcz9_0:w4.cell? ⟨gb163,0,none⟩=some (.int .i64 a0_0):=(blk_cell BK163.out 0).trans rfl
    have hcz9_1:w4.cell? ⟨gb163,1,none⟩=some (.int .i64 a0_1):=(blk_cell BK163.out 1).trans rfl
    have hcz9_2:w4.cell? ⟨gb163,2,none⟩=some (.string a0_2):=(blk_cell BK163.out 2).trans rfl
    have hcz9_3:w4.cell? ⟨gb163,3,none⟩=some (.slice A0_3 l0_3.length c0_3):=(blk_cell BK163.out 3).trans rfl
    have hcz9_4:w4.cell? ⟨gb163,4,none⟩=some (.string a0_4):=(blk_cell BK163.out 4).trans rfl
    have hcz9_5:w4.cell? ⟨gb163,5,none⟩=some (.int .i64 a0_5):=(blk_cell BK163.out 5).trans rfl
    have hfz9_0:=blk_frozen BK163.out 0
    have hfz9_1:=blk_frozen BK163.out 1
    have hfz9_2:=blk_frozen BK163.out 2
    have hfz9_3:=blk_frozen BK163.out 3
    have hfz9_4:=blk_frozen BK163.out 4
    have hfz9_5:=blk_frozen BK163.out 5
    go_wp2
    repeat (go_quiet (fail);try go_wp2)
    go_meet
    case rel=>exact ⟨_,(((a0_1==1) != a1)),(by first|rfl|(simp;done)|(simp [*];done)),H',⟨by first|omega|exact Nat.le_refl _⟩,⟨by (with_reducible repeat (first|refine blk_drewN ?_ _|refine blk_drew ?_|refine blk_alloc ?_ _));exact BK163.out⟩,⟨by repeat (first|(with_reducible first|exact HB.out|apply below_alloc|apply pw_below_drewN|apply below_drew1|refine below_set ?_ GE163.out)|exact HB.out)⟩⟩
 case rest=>
  clear HC3
  try clear c2
  try clear p2
  try clear c5
  try clear c5b0
  try clear c7
  try clear c7b0
  try clear hcz6_0
  try clear hcz6_1
  try clear hcz6_2
  try clear hcz6_3
  try clear hcz6_4
  try clear hcz6_5
  try clear hcz8_0
  try clear hcz8_1
  try clear hcz8_2
  try clear hcz8_3
  try clear hcz8_4
  try clear hcz8_5
  try clear hcz9_0
  try clear hcz9_1
  try clear hcz9_2
  try clear hcz9_3
  try clear hcz9_4
  try clear hcz9_5
  try clear hfz6_0
  try clear hfz6_1
  try clear hfz6_2
  try clear hfz6_3
  try clear hfz6_4
  try clear hfz6_5
  try clear hfz8_0
  try clear hfz8_1
  try clear hfz8_2
  try clear hfz8_3
  try clear hfz8_4
  try clear hfz8_5
  try clear hfz9_0
  try clear hfz9_1
  try clear hfz9_2
  try clear hfz9_3
  try clear hfz9_4
  try clear hfz9_5
  obtain ⟨kq,x20_2,rfl,HA,HJ2,BK163,HB⟩:=hcut
  cases kq with
  |zero=>exact absurd HA.out (by simp [spec_l3NodeOk.j0])
  |succ kj2=>
   have H:=HA.out
   clear HA
   simp only [spec_l3NodeOk.j0] at H
   by_cases c10:x20_2=true
   ·subst c10
    have H1:(some false)=some r:=by rw [if_pos rfl] at H;exact H
    clear H
    have H:=H1
    clear H1
    obtain rfl:=Option.some.inj H
    go_wp2
    repeat (go_quiet (fail);try go_wp2)
    go_ret
    exact ⟨by first|rfl|(simp [errW_none,errW_some]<;>rfl)|(simp [*,errW_none,errW_some]<;>rfl),by repeat (first|(with_reducible first|exact HB.out|apply below_alloc|apply pw_below_drewN|apply below_drew1|refine below_set ?_ GE163.out)|exact HB.out)⟩
   ·replace c10:=Bool.eq_false_iff.mpr c10
    subst c10
    have H1:(if a0_1=1 then (if a0_2.toList=([]:List UInt8) then (if a0_4.toList=([]:List UInt8) then (some ((l0_3.length:Int)==0)) else (some false)) else (some false)) else (if a0_1=2 then (spec_l3NodeOk.l0 kj2 0 a0_0 a0_1 a0_2 l0_3 a0_4 a0_5) else (if a0_1=3 then (if a0_2.toList=([]:List UInt8) then (if a0_4.toList=([]:List UInt8) then (some false) else (if (l0_3.length:Int)=0 then (some (a0_5==0)) else (some false))) else (some false)) else (if a0_1=4 then (if a0_2.toList=([]:List UInt8) then (if (l0_3.length:Int)=0 then (some (a0_5==0)) else (some false)) else (some false)) else (if a0_1=5 then (if a0_4.toList=([]:List UInt8) then (if (l0_3.length:Int)=0 then (some (a0_5==0)) else (some false)) else (some false)) else (some false))))))=some r:=by rw [if_neg (show ¬ (false=true) by decide)] at H;exact H
    clear H
    have H:=H1
    clear H1
    by_cases c11:a0_1=1
    ·rw [if_pos c11] at H
     have c11b0:(a0_1==1)=true:=beq_iff_eq.mpr c11
     have c11b1:(a0_1 != 1)=false:=bne_eq_false_iff_eq.mpr c11
     clear c11
     by_cases c12:a0_2.toList=([]:List UInt8)
     ·rw [if_pos c12] at H
      have c12b0:(a0_2.toList==([]:List UInt8))=true:=beq_iff_eq.mpr c12
      have c12b1:(a0_2.toList != ([]:List UInt8))=false:=bne_eq_false_iff_eq.mpr c12
      clear c12
      by_cases c13:a0_4.toList=([]:List UInt8)
      ·rw [if_pos c13] at H
       have c13b0:(a0_4.toList==([]:List UInt8))=true:=beq_iff_eq.mpr c13
       have c13b1:(a0_4.toList != ([]:List UInt8))=false:=bne_eq_false_iff_eq.mpr c13
       clear c13
       obtain rfl:=Option.some.inj H
       have hcz14_0:wc.cell? ⟨gb163,0,none⟩=some (.int .i64 a0_0):=(blk_cell BK163.out 0).trans rfl
       have hcz14_1:wc.cell? ⟨gb163,1,none⟩=some (.int .i64 a0_1):=(blk_cell BK163.out 1).trans rfl
       have hcz14_2:wc.cell? ⟨gb163,2,none⟩=some (.string a0_2):=(blk_cell BK163.out 2).trans rfl
       have hcz14_3:wc.cell? ⟨gb163,3,none⟩=some (.slice A0_3 l0_3.length c0_3):=(blk_cell BK163.out 3).trans rfl
       have hcz14_4:wc.cell? ⟨gb163,4,none⟩=some (.string a0_4):=(blk_cell BK163.out 4).trans rfl
       have hcz14_5:wc.cell? ⟨gb163,5,none⟩=some (.int .i64 a0_5):=(blk_cell BK163.out 5).trans rfl
       have hfz14_0:=blk_frozen BK163.out 0
       have hfz14_1:=blk_frozen BK163.out 1
       have hfz14_2:=blk_frozen BK163.out 2
       have hfz14_3:=blk_frozen BK163.out 3
       have hfz14_4:=blk_frozen BK163.out 4
       have hfz14_5:=blk_frozen BK163.out 5
       go_wp2
       repeat (go_quiet (fail);try go_wp2)
       go_ret
       exact ⟨by first|rfl|(simp [errW_none,errW_some]<;>rfl)|(simp [*,errW_none,errW_some]<;>rfl),by repeat (first|(with_reducible first|exact HB.out|apply below_alloc|apply pw_below_drewN|apply below_drew1|refine below_set ?_ GE163.out)|exact HB.out)⟩
      ·rw [if_neg c13] at H
       have c13b0:(a0_4.toList==([]:List UInt8))=false:=beq_eq_false_iff_ne.mpr c13
       have c13b1:(a0_4.toList != ([]:List UInt8))=true:=bne_iff_ne.mpr c13
       obtain rfl:=Option.some.inj H
       have hcz15_0:wc.cell? ⟨gb163,0,none⟩=some (.int .i64 a0_0):=(blk_cell BK163.out 0).trans rfl
       have hcz15_1:wc.cell? ⟨gb163,1,none⟩=some (.int .i64 a0_1):=(blk_cell BK163.out 1).trans rfl
       have hcz15_2:wc.cell? ⟨gb163,2,none⟩=some (.string a0_2):=(blk_cell BK163.out 2).trans rfl
       have hcz15_3:wc.cell? ⟨gb163,3,none⟩=some (.slice A0_3 l0_3.length c0_3):=(blk_cell BK163.out 3).trans rfl
       have hcz15_4:wc.cell? ⟨gb163,4,none⟩=some (.string a0_4):=(blk_cell BK163.out 4).trans rfl
       have hcz15_5:wc.cell? ⟨gb163,5,none⟩=some (.int .i64 a0_5):=(blk_cell BK163.out 5).trans rfl
       have hfz15_0:=blk_frozen BK163.out 0
       have hfz15_1:=blk_frozen BK163.out 1
       have hfz15_2:=blk_frozen BK163.out 2
       have hfz15_3:=blk_frozen BK163.out 3
       have hfz15_4:=blk_frozen BK163.out 4
       have hfz15_5:=blk_frozen BK163.out 5
       go_wp2
       repeat (go_quiet (fail);try go_wp2)
       go_ret
       exact ⟨by first|rfl|(simp [errW_none,errW_some]<;>rfl)|(simp [*,errW_none,errW_some]<;>rfl),by repeat (first|(with_reducible first|exact HB.out|apply below_alloc|apply pw_below_drewN|apply below_drew1|refine below_set ?_ GE163.out)|exact HB.out)⟩
     ·rw [if_neg c12] at H
      have c12b0:(a0_2.toList==([]:List UInt8))=false:=beq_eq_false_iff_ne.mpr c12
      have c12b1:(a0_2.toList != ([]:List UInt8))=true:=bne_iff_ne.mpr c12
      obtain rfl:=Option.some.inj H
      have hcz16_0:wc.cell? ⟨gb163,0,none⟩=some (.int .i64 a0_0):=(blk_cell BK163.out 0).trans rfl
      have hcz16_1:wc.cell? ⟨gb163,1,none⟩=some (.int .i64 a0_1):=(blk_cell BK163.out 1).trans rfl
      have hcz16_2:wc.cell? ⟨gb163,2,none⟩=some (.string a0_2):=(blk_cell BK163.out 2).trans rfl
      have hcz16_3:wc.cell? ⟨gb163,3,none⟩=some (.slice A0_3 l0_3.length c0_3):=(blk_cell BK163.out 3).trans rfl
      have hcz16_4:wc.cell? ⟨gb163,4,none⟩=some (.string a0_4):=(blk_cell BK163.out 4).trans rfl
      have hcz16_5:wc.cell? ⟨gb163,5,none⟩=some (.int .i64 a0_5):=(blk_cell BK163.out 5).trans rfl
      have hfz16_0:=blk_frozen BK163.out 0
      have hfz16_1:=blk_frozen BK163.out 1
      have hfz16_2:=blk_frozen BK163.out 2
      have hfz16_3:=blk_frozen BK163.out 3
      have hfz16_4:=blk_frozen BK163.out 4
      have hfz16_5:=blk_frozen BK163.out 5
      go_wp2
      repeat (go_quiet (fail);try go_wp2)
      go_ret
      exact ⟨by first|rfl|(simp [errW_none,errW_some]<;>rfl)|(simp [*,errW_none,errW_some]<;>rfl),by repeat (first|(with_reducible first|exact HB.out|apply below_alloc|apply pw_below_drewN|apply below_drew1|refine below_set ?_ GE163.out)|exact HB.out)⟩
    ·rw [if_neg c11] at H
     have c11b0:(a0_1==1)=false:=beq_eq_false_iff_ne.mpr c11
     have c11b1:(a0_1 != 1)=true:=bne_iff_ne.mpr c11
     by_cases c17:a0_1=2
     ·rw [if_pos c17] at H
      have c17b0:(a0_1==2)=true:=beq_iff_eq.mpr c17
      have c17b1:(a0_1 != 2)=false:=bne_eq_false_iff_eq.mpr c17
      clear c17
      have H':=Aside0.mk H
      clear H
      have hcz18_0:wc.cell? ⟨gb163,0,none⟩=some (.int .i64 a0_0):=(blk_cell BK163.out 0).trans rfl
      have hcz18_1:wc.cell? ⟨gb163,1,none⟩=some (.int .i64 a0_1):=(blk_cell BK163.out 1).trans rfl
      have hcz18_2:wc.cell? ⟨gb163,2,none⟩=some (.string a0_2):=(blk_cell BK163.out 2).trans rfl
      have hcz18_3:wc.cell? ⟨gb163,3,none⟩=some (.slice A0_3 l0_3.length c0_3):=(blk_cell BK163.out 3).trans rfl
      have hcz18_4:wc.cell? ⟨gb163,4,none⟩=some (.string a0_4):=(blk_cell BK163.out 4).trans rfl
      have hcz18_5:wc.cell? ⟨gb163,5,none⟩=some (.int .i64 a0_5):=(blk_cell BK163.out 5).trans rfl
      have hfz18_0:=blk_frozen BK163.out 0
      have hfz18_1:=blk_frozen BK163.out 1
      have hfz18_2:=blk_frozen BK163.out 2
      have hfz18_3:=blk_frozen BK163.out 3
      have hfz18_4:=blk_frozen BK163.out 4
      have hfz18_5:=blk_frozen BK163.out 5
      go_wp2
      repeat (go_quiet (fail);try go_wp2)
      go_loopg [5] kj2 (fun kq v5 w'=>∃ (x5_2:Int),v5=.int .i64 x5_2∧Aside0 (spec_l3NodeOk.l0 kq x5_2 a0_0 a0_1 a0_2 l0_3 a0_4 a0_5=some r)∧Aside0 (kq≤kj2)∧Aside0 (w'.heap[gb163]?=some (.cells #[.int .i64 a0_0,.int .i64 a0_1,.string a0_2,(.slice A0_3 l0_3.length c0_3),.string a0_4,.int .i64 a0_5] 57 (0,0)))∧Aside0 (Below w.heap.size w w'))
      case atStart=>exact ⟨(0),(by first|rfl|(simp;done)|(simp [*];done)),H',⟨Nat.le_refl _⟩,⟨by (with_reducible repeat (first|refine blk_drewN ?_ _|refine blk_drew ?_|refine blk_alloc ?_ _));exact BK163.out⟩,⟨by repeat (first|(with_reducible first|exact HB.out|apply below_alloc|apply pw_below_drewN|apply below_drew1|refine below_set ?_ GE163.out)|exact HB.out)⟩⟩
      case round=>
       clear H'
       try clear c1
       try clear c2
       try clear p2
       try clear c5
       try clear c5b0
       try clear c7
       try clear c7b0
       try clear c10
       try clear c11
       try clear c11b0
       try clear c11b1
       try clear c12
       try clear c12b0
       try clear c12b1
       try clear c13
       try clear c13b0
       try clear c13b1
       try clear c17
       try clear c17b0
       try clear c17b1
       try clear hcz14_0
       try clear hcz14_1
       try clear hcz14_2
       try clear hcz14_3
       try clear hcz14_4
       try clear hcz14_5
       try clear hcz15_0
       try clear hcz15_1
       try clear hcz15_2
       try clear hcz15_3
       try clear hcz15_4
       try clear hcz15_5
       try clear hcz16_0
       try clear hcz16_1
       try clear hcz16_2
       try clear hcz16_3
       try clear hcz16_4
       try clear hcz16_5
       try clear hcz18_0
       try clear hcz18_1
       try clear hcz18_2
       try clear hcz18_3
       try clear hcz18_4
       try clear hcz18_5
       try clear hcz6_0
       try clear hcz6_1
       try clear hcz6_2
       try clear hcz6_3
       try clear hcz6_4
       try clear hcz6_5
       try clear hcz8_0
       try clear hcz8_1
       try clear hcz8_2
       try clear hcz8_3
       try clear hcz8_4
       try clear hcz8_5
       try clear hcz9_0
       try clear hcz9_1
       try clear hcz9_2
       try clear hcz9_3
       try clear hcz9_4
       try clear hcz9_5
       try clear hfz14_0
       try clear hfz14_1
       try clear hfz14_2
       try clear hfz14_3
       try clear hfz14_4
       try clear hfz14_5
       try clear hfz15_0
       try clear hfz15_1
       try clear hfz15_2
       try clear hfz15_3
       try clear hfz15_4
       try clear hfz15_5
       try clear hfz16_0
       try clear hfz16_1
       try clear hfz16_2
       try clear hfz16_3
       try clear hfz16_4
       try clear hfz16_5
       try clear hfz18_0
       try clear hfz18_1
       try clear hfz18_2
       try clear hfz18_3
       try clear hfz18_4
       try clear hfz18_5
       try clear hfz6_0
       try clear hfz6_1
       try clear hfz6_2
       try clear hfz6_3
       try clear hfz6_4
       try clear hfz6_5
       try clear hfz8_0
       try clear hfz8_1
       try clear hfz8_2
       try clear hfz8_3
       try clear hfz8_4
       try clear hfz8_5
       try clear hfz9_0
       try clear hfz9_1
       try clear hfz9_2
       try clear hfz9_3
       try clear hfz9_4
       try clear hfz9_5
       try clear p2
       obtain ⟨x5_2,rfl,HA,HK2,BK163,HB⟩:=hrel
       cases gk with
       |zero=>exact absurd HA.out (by simp [spec_l3NodeOk.l0])
       |succ k2=>
        have H:=HA.out
        clear HA
        simp only [spec_l3NodeOk.l0] at H
        by_cases c19:x5_2<(l0_3.length:Int)
        ·rw [if_pos c19] at H
         have c19b0:decide (x5_2<(l0_3.length:Int))=true:=decide_eq_true c19
         clear c19
         by_cases c20:0≤x5_2
         ·rw [if_pos c20] at H
          have c20b0:decide (0≤x5_2)=true:=decide_eq_true c20
          clear c20
          by_cases c21:((rd_T77 l0_3 x5_2).f0).toList=([]:List UInt8)
          ·rw [if_pos c21] at H
           have c21b0:(((rd_T77 l0_3 x5_2).f0).toList==([]:List UInt8))=true:=beq_iff_eq.mpr c21
           have c21b1:(((rd_T77 l0_3 x5_2).f0).toList != ([]:List UInt8))=false:=bne_eq_false_iff_eq.mpr c21
           clear c21
           obtain rfl:=Option.some.inj H
           have hcz22_0:wr.cell? ⟨gb163,0,none⟩=some (.int .i64 a0_0):=(blk_cell BK163.out 0).trans rfl
           have hcz22_1:wr.cell? ⟨gb163,1,none⟩=some (.int .i64 a0_1):=(blk_cell BK163.out 1).trans rfl
           have hcz22_2:wr.cell? ⟨gb163,2,none⟩=some (.string a0_2):=(blk_cell BK163.out 2).trans rfl
           have hcz22_3:wr.cell? ⟨gb163,3,none⟩=some (.slice A0_3 l0_3.length c0_3):=(blk_cell BK163.out 3).trans rfl
           have hcz22_4:wr.cell? ⟨gb163,4,none⟩=some (.string a0_4):=(blk_cell BK163.out 4).trans rfl
           have hcz22_5:wr.cell? ⟨gb163,5,none⟩=some (.int .i64 a0_5):=(blk_cell BK163.out 5).trans rfl
           have hfz22_0:=blk_frozen BK163.out 0
           have hfz22_1:=blk_frozen BK163.out 1
           have hfz22_2:=blk_frozen BK163.out 2
           have hfz22_3:=blk_frozen BK163.out 3
           have hfz22_4:=blk_frozen BK163.out 4
           have hfz22_5:=blk_frozen BK163.out 5
           have p164:0≤(x5_2:Int):=of_decide_eq_true (by first|(with_reducible assumption)|assumption)
           have q164:x5_2<(l0_3.length:Int):=of_decide_eq_true (by first|(with_reducible assumption)|assumption)
           obtain ⟨ad164,e164,hx164_0,hx164_1⟩:=at_T77 HR0_3.out x5_2 p164 q164
           cases e164
           replace hx164_0:=(HB.out.cell (World.block_lt_of_cell? w _ hx164_0)).trans hx164_0
           replace hx164_1:=(HB.out.cell (World.block_lt_of_cell? w _ hx164_1)).trans hx164_1
           replace p164:=eq_true p164
           replace q164:=eq_true q164
           go_wp2
           repeat (go_quiet (fail);try go_wp2)
           go_ret
           exact ⟨by first|rfl|(simp [errW_none,errW_some]<;>rfl)|(simp [*,errW_none,errW_some]<;>rfl),by repeat (first|(with_reducible first|exact HB.out|apply below_alloc|apply pw_below_drewN|apply below_drew1|refine below_set ?_ GE163.out)|exact HB.out)⟩
          ·rw [if_neg c21] at H
           have c21b0:(((rd_T77 l0_3 x5_2).f0).toList==([]:List UInt8))=false:=beq_eq_false_iff_ne.mpr c21
           have c21b1:(((rd_T77 l0_3 x5_2).f0).toList != ([]:List UInt8))=true:=bne_iff_ne.mpr c21
           have c23b0:=eq_true (of_decide_eq_true (by first|(with_reducible assumption)|assumption):0≤x5_2)
           by_cases c24:x5_2≤(l0_3.length:Int)
           ·rw [if_pos c24] at H
            have c24b0:=eq_true c24
            have c24b1:decide (x5_2≤(l0_3.length:Int))=true:=decide_eq_true c24
            clear c24
            obtain ⟨y165,hy165⟩:∃ y_:List (S77),y_=(l0_3.take (x5_2:Int).toNat):=⟨_,rfl⟩
            replace H:((spec_l2Has.f k2 y165 ((rd_T77 l0_3 x5_2).f0)).bind fun t170=>(if t170=true then (some false) else (spec_l3NodeOk.l0 k2 (wrap64 (x5_2+1)) a0_0 a0_1 a0_2 l0_3 a0_4 a0_5)))=some r:=by first|(rw [hy165];with_reducible exact H)|(have H2_:=(Option.bind_some _ _).symm.trans H;rw [hy165];with_reducible exact H2_)|(have H2_:=(Option.bind_some _ _).symm.trans H;with_reducible exact H2_)|with_reducible exact H|(rw [hy165];exact H)|exact H
            have Ny165:=Aside0.mk hy165
            clear hy165
            replace H:=Option.bind_eq_some_iff.mp H
            obtain ⟨t170,A250,H⟩:=H
            replace H:(if t170=true then (some false) else (spec_l3NodeOk.l0 k2 (wrap64 (x5_2+1)) a0_0 a0_1 a0_2 l0_3 a0_4 a0_5))=some r:=H
            have A25:=Aside0.mk A250
            clear A250
            by_cases c26:t170=true
            ·subst c26
             have H1:(some false)=some r:=by rw [if_pos rfl] at H;exact H
             clear H
             have H:=H1
             clear H1
             obtain rfl:=Option.some.inj H
             have hcz27_0:wr.cell? ⟨gb163,0,none⟩=some (.int .i64 a0_0):=(blk_cell BK163.out 0).trans rfl
             have hcz27_1:wr.cell? ⟨gb163,1,none⟩=some (.int .i64 a0_1):=(blk_cell BK163.out 1).trans rfl
             have hcz27_2:wr.cell? ⟨gb163,2,none⟩=some (.string a0_2):=(blk_cell BK163.out 2).trans rfl
             have hcz27_3:wr.cell? ⟨gb163,3,none⟩=some (.slice A0_3 l0_3.length c0_3):=(blk_cell BK163.out 3).trans rfl
             have hcz27_4:wr.cell? ⟨gb163,4,none⟩=some (.string a0_4):=(blk_cell BK163.out 4).trans rfl
             have hcz27_5:wr.cell? ⟨gb163,5,none⟩=some (.int .i64 a0_5):=(blk_cell BK163.out 5).trans rfl
             have hfz27_0:=blk_frozen BK163.out 0
             have hfz27_1:=blk_frozen BK163.out 1
             have hfz27_2:=blk_frozen BK163.out 2
             have hfz27_3:=blk_frozen BK163.out 3
             have hfz27_4:=blk_frozen BK163.out 4
             have hfz27_5:=blk_frozen BK163.out 5
             have p164:0≤(x5_2:Int):=of_decide_eq_true (by first|(with_reducible assumption)|assumption)
             have q164:x5_2<(l0_3.length:Int):=of_decide_eq_true (by first|(with_reducible assumption)|assumption)
             obtain ⟨ad164,e164,hx164_0,hx164_1⟩:=at_T77 HR0_3.out x5_2 p164 q164
             cases e164
             replace hx164_0:=(HB.out.cell (World.block_lt_of_cell? w _ hx164_0)).trans hx164_0
             replace hx164_1:=(HB.out.cell (World.block_lt_of_cell? w _ hx164_1)).trans hx164_1
             replace p164:=eq_true p164
             replace q164:=eq_true q164
             have q28:(x5_2:Int)≤((l0_3.length:Int):Int):=of_decide_eq_true (by first|(with_reducible assumption)|assumption)
             obtain ⟨i028,hi028,_,hsz28,_⟩:=info_parts info77
             have hroom28:l0_3.length≤c0_3:=HC0_3.out
             have hC28:Kd.C k77 _ (some ad164) l0_3.length l0_3:=HR0_3.out
             have hcut28:=cut_to (P:=Tryz.prog) 55 77 .i64 Tryz.underlying55 hi028 (some ad164) l0_3.length c0_3 x5_2 (of_decide_eq_true (by first|(with_reducible assumption)|assumption)) q28 hroom28
             have hr28:=Kd.C_take (m:=(x5_2:Int).toNat) hC28 (by omega)
             have hy28:y165.length=(x5_2:Int).toNat:=(by rw [Ny165.out,List.length_take];omega)
             rw [← Ny165.out] at hr28
             rw [← hy28] at hcut28
             have HR168:=Aside0.mk hr28
             have HC168:=Aside0.mk (show y165.length≤c0_3 from by omega)
             clear hr28 hC28 hroom28 hi028 hsz28
             have KY28:=Aside0.mk hy28
             clear hy28
             replace q28:=eq_true q28
             have p169:0≤(x5_2:Int):=of_decide_eq_true (by first|(with_reducible assumption)|assumption)
             have q169:x5_2<(l0_3.length:Int):=of_decide_eq_true (by first|(with_reducible assumption)|assumption)
             obtain ⟨ad169,e169,hx169_0,hx169_1⟩:=at_T77 HR0_3.out x5_2 p169 q169
             obtain rfl:ad164=ad169:=(by injection e169)
             replace hx169_0:=(HB.out.cell (World.block_lt_of_cell? w _ hx169_0)).trans hx169_0
             replace hx169_1:=(HB.out.cell (World.block_lt_of_cell? w _ hx169_1)).trans hx169_1
             replace p169:=eq_true p169
             replace q169:=eq_true q169
             go_wp2_with (first|(go_at_call 32;(with_reducible refine (spec_l2Has.calls k2 _ _ y165 ((rd_T77 l0_3 x5_2).f0) true _ ?side1 ?side2 A25.out).mono ?_);(case side1=>repeat (first|exact (Kd.C_below HR168.out HB.out)|(with_reducible refine Kd.C_alloc ?_ _)|(with_reducible refine Kd.C_drewN ?_ _)|(with_reducible refine Kd.C_drew ?_)));(case side2=>exact HC168.out);rintro e w' ⟨rfl,⟨nd,rfl⟩⟩;(try first|exact ⟨rfl,_,World.drewN_drewN _ _ _⟩|exact ⟨rfl,_,Eq.trans (World.drewN_drewN _ _ _) (congrArg (World.drewN _) (Nat.add_assoc _ _ _))⟩)))
             repeat (go_quiet (first|(go_at_call 32;(with_reducible refine (spec_l2Has.calls k2 _ _ y165 ((rd_T77 l0_3 x5_2).f0) true _ ?side1 ?side2 A25.out).mono ?_);(case side1=>repeat (first|exact (Kd.C_below HR168.out HB.out)|(with_reducible refine Kd.C_alloc ?_ _)|(with_reducible refine Kd.C_drewN ?_ _)|(with_reducible refine Kd.C_drew ?_)));(case side2=>exact HC168.out);rintro e w' ⟨rfl,⟨nd,rfl⟩⟩;(try first|exact ⟨rfl,_,World.drewN_drewN _ _ _⟩|exact ⟨rfl,_,Eq.trans (World.drewN_drewN _ _ _) (congrArg (World.drewN _) (Nat.add_assoc _ _ _))⟩)));try go_wp2_with (first|(go_at_call 32;(with_reducible refine (spec_l2Has.calls k2 _ _ y165 ((rd_T77 l0_3 x5_2).f0) true _ ?side1 ?side2 A25.out).mono ?_);(case side1=>repeat (first|exact (Kd.C_below HR168.out HB.out)|(with_reducible refine Kd.C_alloc ?_ _)|(with_reducible refine Kd.C_drewN ?_ _)|(with_reducible refine Kd.C_drew ?_)));(case side2=>exact HC168.out);rintro e w' ⟨rfl,⟨nd,rfl⟩⟩;(try first|exact ⟨rfl,_,World.drewN_drewN _ _ _⟩|exact ⟨rfl,_,Eq.trans (World.drewN_drewN _ _ _) (congrArg (World.drewN _) (Nat.add_assoc _ _ _))⟩))))
             go_ret
             exact ⟨by first|rfl|(simp [errW_none,errW_some]<;>rfl)|(simp [*,errW_none,errW_some]<;>rfl),by repeat (first|(with_reducible first|exact HB.out|apply below_alloc|apply pw_below_drewN|apply below_drew1|refine below_set ?_ GE163.out)|exact HB.out)⟩
            ·replace c26:=Bool.eq_false_iff.mpr c26
             subst c26
             have H1:(spec_l3NodeOk.l0 k2 (wrap64 (x5_2+1)) a0_0 a0_1 a0_2 l0_3 a0_4 a0_5)=some r:=by rw [if_neg (show ¬ (false=true) by decide)] at H;exact H
             clear H
             have H:=H1
             clear H1
             have H':=Aside0.mk H
             clear H
             have hcz29_0:wr.cell? ⟨gb163,0,none⟩=some (.int .i64 a0_0):=(blk_cell BK163.out 0).trans rfl
             have hcz29_1:wr.cell? ⟨gb163,1,none⟩=some (.int .i64 a0_1):=(blk_cell BK163.out 1).trans rfl
             have hcz29_2:wr.cell? ⟨gb163,2,none⟩=some (.string a0_2):=(blk_cell BK163.out 2).trans rfl
             have hcz29_3:wr.cell? ⟨gb163,3,none⟩=some (.slice A0_3 l0_3.length c0_3):=(blk_cell BK163.out 3).trans rfl
             have hcz29_4:wr.cell? ⟨gb163,4,none⟩=some (.string a0_4):=(blk_cell BK163.out 4).trans rfl
             have hcz29_5:wr.cell? ⟨gb163,5,none⟩=some (.int .i64 a0_5):=(blk_cell BK163.out 5).trans rfl
             have hfz29_0:=blk_frozen BK163.out 0
             have hfz29_1:=blk_frozen BK163.out 1
             have hfz29_2:=blk_frozen BK163.out 2
             have hfz29_3:=blk_frozen BK163.out 3
             have hfz29_4:=blk_frozen BK163.out 4
             have hfz29_5:=blk_frozen BK163.out 5
             have p164:0≤(x5_2:Int):=of_decide_eq_true (by first|(with_reducible assumption)|assumption)
             have q164:x5_2<(l0_3.length:Int):=of_decide_eq_true (by first|(with_reducible assumption)|assumption)
             obtain ⟨ad164,e164,hx164_0,hx164_1⟩:=at_T77 HR0_3.out x5_2 p164 q164
             cases e164
             replace hx164_0:=(HB.out.cell (World.block_lt_of_cell? w _ hx164_0)).trans hx164_0
             replace hx164_1:=(HB.out.cell (World.block_lt_of_cell? w _ hx164_1)).trans hx164_1
             replace p164:=eq_true p164
             replace q164:=eq_true q164
             have q30:(x5_2:Int)≤((l0_3.length:Int):Int):=of_decide_eq_true (by first|(with_reducible assumption)|assumption)
             obtain ⟨i030,hi030,_,hsz30,_⟩:=info_parts info77
             have hroom30:l0_3.length≤c0_3:=HC0_3.out
             have hC30:Kd.C k77 _ (some ad164) l0_3.length l0_3:=HR0_3.out
             have hcut30:=cut_to (P:=Tryz.prog) 55 77 .i64 Tryz.underlying55 hi030 (some ad164) l0_3.length c0_3 x5_2 (of_decide_eq_true (by first|(with_reducible assumption)|assumption)) q30 hroom30
             have hr30:=Kd.C_take (m:=(x5_2:Int).toNat) hC30 (by omega)
             have hy30:y165.length=(x5_2:Int).toNat:=(by rw [Ny165.out,List.length_take];omega)
             rw [← Ny165.out] at hr30
             rw [← hy30] at hcut30
             have HR168:=Aside0.mk hr30
             have HC168:=Aside0.mk (show y165.length≤c0_3 from by omega)
             clear hr30 hC30 hroom30 hi030 hsz30
             have KY30:=Aside0.mk hy30
             clear hy30
             replace q30:=eq_true q30
             have p169:0≤(x5_2:Int):=of_decide_eq_true (by first|(with_reducible assumption)|assumption)
             have q169:x5_2<(l0_3.length:Int):=of_decide_eq_true (by first|(with_reducible assumption)|assumption)
             obtain ⟨ad169,e169,hx169_0,hx169_1⟩:=at_T77 HR0_3.out x5_2 p169 q169
             obtain rfl:ad164=ad169:=(by injection e169)
             replace hx169_0:=(HB.out.cell (World.block_lt_of_cell? w _ hx169_0)).trans hx169_0
             replace hx169_1:=(HB.out.cell (World.block_lt_of_cell? w _ hx169_1)).trans hx169_1
             replace p169:=eq_true p169
             replace q169:=eq_true q169
             go_wp2_with (first|(go_at_call 32;(with_reducible refine (spec_l2Has.calls k2 _ _ y165 ((rd_T77 l0_3 x5_2).f0) false _ ?side1 ?side2 A25.out).mono ?_);(case side1=>repeat (first|exact (Kd.C_below HR168.out HB.out)|(with_reducible refine Kd.C_alloc ?_ _)|(with_reducible refine Kd.C_drewN ?_ _)|(with_reducible refine Kd.C_drew ?_)));(case side2=>exact HC168.out);rintro e w' ⟨rfl,⟨nd,rfl⟩⟩;(try first|exact ⟨rfl,_,World.drewN_drewN _ _ _⟩|exact ⟨rfl,_,Eq.trans (World.drewN_drewN _ _ _) (congrArg (World.drewN _) (Nat.add_assoc _ _ _))⟩)))
             repeat (go_quiet (first|(go_at_call 32;(with_reducible refine (spec_l2Has.calls k2 _ _ y165 ((rd_T77 l0_3 x5_2).f0) false _ ?side1 ?side2 A25.out).mono ?_);(case side1=>repeat (first|exact (Kd.C_below HR168.out HB.out)|(with_reducible refine Kd.C_alloc ?_ _)|(with_reducible refine Kd.C_drewN ?_ _)|(with_reducible refine Kd.C_drew ?_)));(case side2=>exact HC168.out);rintro e w' ⟨rfl,⟨nd,rfl⟩⟩;(try first|exact ⟨rfl,_,World.drewN_drewN _ _ _⟩|exact ⟨rfl,_,Eq.trans (World.drewN_drewN _ _ _) (congrArg (World.drewN _) (Nat.add_assoc _ _ _))⟩)));try go_wp2_with (first|(go_at_call 32;(with_reducible refine (spec_l2Has.calls k2 _ _ y165 ((rd_T77 l0_3 x5_2).f0) false _ ?side1 ?side2 A25.out).mono ?_);(case side1=>repeat (first|exact (Kd.C_below HR168.out HB.out)|(with_reducible refine Kd.C_alloc ?_ _)|(with_reducible refine Kd.C_drewN ?_ _)|(with_reducible refine Kd.C_drew ?_)));(case side2=>exact HC168.out);rintro e w' ⟨rfl,⟨nd,rfl⟩⟩;(try first|exact ⟨rfl,_,World.drewN_drewN _ _ _⟩|exact ⟨rfl,_,Eq.trans (World.drewN_drewN _ _ _) (congrArg (World.drewN _) (Nat.add_assoc _ _ _))⟩))))
             go_roundg k2
             case measure=>have:=HJ2.out;have:=HK2.out;omega
             case rel=>exact ⟨(wrap64 (x5_2+1)),(by first|rfl|(simp;done)|(simp [*];done)),H',⟨by have:=HJ2.out;have:=HK2.out;omega⟩,⟨by (with_reducible repeat (first|refine blk_drewN ?_ _|refine blk_drew ?_|refine blk_alloc ?_ _));exact BK163.out⟩,⟨by repeat (first|(with_reducible first|exact HB.out|apply below_alloc|apply pw_below_drewN|apply below_drew1|refine below_set ?_ GE163.out)|exact HB.out)⟩⟩
           ·rw [if_neg c24] at H
            exact absurd H (by simp)
         ·rw [if_neg c20] at H
          exact absurd H (by simp)
        ·rw [if_neg c19] at H
         have c19b0:decide (x5_2<(l0_3.length:Int))=false:=decide_eq_false c19
         clear c19
         by_cases c31:a0_2.toList=([]:List UInt8)
         ·rw [if_pos c31] at H
          have c31b0:(a0_2.toList==([]:List UInt8))=true:=beq_iff_eq.mpr c31
          have c31b1:(a0_2.toList != ([]:List UInt8))=false:=bne_eq_false_iff_eq.mpr c31
          clear c31
          obtain rfl:=Option.some.inj H
          have hcz32_0:wr.cell? ⟨gb163,0,none⟩=some (.int .i64 a0_0):=(blk_cell BK163.out 0).trans rfl
          have hcz32_1:wr.cell? ⟨gb163,1,none⟩=some (.int .i64 a0_1):=(blk_cell BK163.out 1).trans rfl
          have hcz32_2:wr.cell? ⟨gb163,2,none⟩=some (.string a0_2):=(blk_cell BK163.out 2).trans rfl
          have hcz32_3:wr.cell? ⟨gb163,3,none⟩=some (.slice A0_3 l0_3.length c0_3):=(blk_cell BK163.out 3).trans rfl
          have hcz32_4:wr.cell? ⟨gb163,4,none⟩=some (.string a0_4):=(blk_cell BK163.out 4).trans rfl
          have hcz32_5:wr.cell? ⟨gb163,5,none⟩=some (.int .i64 a0_5):=(blk_cell BK163.out 5).trans rfl
          have hfz32_0:=blk_frozen BK163.out 0
          have hfz32_1:=blk_frozen BK163.out 1
          have hfz32_2:=blk_frozen BK163.out 2
          have hfz32_3:=blk_frozen BK163.out 3
          have hfz32_4:=blk_frozen BK163.out 4
          have hfz32_5:=blk_frozen BK163.out 5
          go_wp2
          repeat (go_quiet (fail);try go_wp2)
          go_ret
          exact ⟨by first|rfl|(simp [errW_none,errW_some]<;>rfl)|(simp [*,errW_none,errW_some]<;>rfl),by repeat (first|(with_reducible first|exact HB.out|apply below_alloc|apply pw_below_drewN|apply below_drew1|refine below_set ?_ GE163.out)|exact HB.out)⟩
         ·rw [if_neg c31] at H
          have c31b0:(a0_2.toList==([]:List UInt8))=false:=beq_eq_false_iff_ne.mpr c31
          have c31b1:(a0_2.toList != ([]:List UInt8))=true:=bne_iff_ne.mpr c31
          obtain rfl:=Option.some.inj H
          have hcz33_0:wr.cell? ⟨gb163,0,none⟩=some (.int .i64 a0_0):=(blk_cell BK163.out 0).trans rfl
          have hcz33_1:wr.cell? ⟨gb163,1,none⟩=some (.int .i64 a0_1):=(blk_cell BK163.out 1).trans rfl
          have hcz33_2:wr.cell? ⟨gb163,2,none⟩=some (.string a0_2):=(blk_cell BK163.out 2).trans rfl
          have hcz33_3:wr.cell? ⟨gb163,3,none⟩=some (.slice A0_3 l0_3.length c0_3):=(blk_cell BK163.out 3).trans rfl
          have hcz33_4:wr.cell? ⟨gb163,4,none⟩=some (.string a0_4):=(blk_cell BK163.out 4).trans rfl
          have hcz33_5:wr.cell? ⟨gb163,5,none⟩=some (.int .i64 a0_5):=(blk_cell BK163.out 5).trans rfl
          have hfz33_0:=blk_frozen BK163.out 0
          have hfz33_1:=blk_frozen BK163.out 1
          have hfz33_2:=blk_frozen BK163.out 2
          have hfz33_3:=blk_frozen BK163.out 3
          have hfz33_4:=blk_frozen BK163.out 4
          have hfz33_5:=blk_frozen BK163.out 5
          go_wp2
          repeat (go_quiet (fail);try go_wp2)
          go_ret
          exact ⟨by first|rfl|(simp [errW_none,errW_some]<;>rfl)|(simp [*,errW_none,errW_some]<;>rfl),by repeat (first|(with_reducible first|exact HB.out|apply below_alloc|apply pw_below_drewN|apply below_drew1|refine below_set ?_ GE163.out)|exact HB.out)⟩
     ·rw [if_neg c17] at H
      have c17b0:(a0_1==2)=false:=beq_eq_false_iff_ne.mpr c17
      have c17b1:(a0_1 != 2)=true:=bne_iff_ne.mpr c17
      by_cases c34:a0_1=3
      ·rw [if_pos c34] at H
       have c34b0:(a0_1==3)=true:=beq_iff_eq.mpr c34
       have c34b1:(a0_1 != 3)=false:=bne_eq_false_iff_eq.mpr c34
       clear c34
       by_cases c35:a0_2.toList=([]:List UInt8)
       ·rw [if_pos c35] at H
        have c35b0:(a0_2.toList==([]:List UInt8))=true:=beq_iff_eq.mpr c35
        have c35b1:(a0_2.toList != ([]:List UInt8))=false:=bne_eq_false_iff_eq.mpr c35
        clear c35
        by_cases c36:a0_4.toList=([]:List UInt8)
        ·rw [if_pos c36] at H
         have c36b0:(a0_4.toList==([]:List UInt8))=true:=beq_iff_eq.mpr c36
         have c36b1:(a0_4.toList != ([]:List UInt8))=false:=bne_eq_false_iff_eq.mpr c36
         clear c36
         obtain rfl:=Option.some.inj H
         have hcz37_0:wc.cell? ⟨gb163,0,none⟩=some (.int .i64 a0_0):=(blk_cell BK163.out 0).trans rfl
         have hcz37_1:wc.cell? ⟨gb163,1,none⟩=some (.int .i64 a0_1):=(blk_cell BK163.out 1).trans rfl
         have hcz37_2:wc.cell? ⟨gb163,2,none⟩=some (.string a0_2):=(blk_cell BK163.out 2).trans rfl
         have hcz37_3:wc.cell? ⟨gb163,3,none⟩=some (.slice A0_3 l0_3.length c0_3):=(blk_cell BK163.out 3).trans rfl
         have hcz37_4:wc.cell? ⟨gb163,4,none⟩=some (.string a0_4):=(blk_cell BK163.out 4).trans rfl
         have hcz37_5:wc.cell? ⟨gb163,5,none⟩=some (.int .i64 a0_5):=(blk_cell BK163.out 5).trans rfl
         have hfz37_0:=blk_frozen BK163.out 0
         have hfz37_1:=blk_frozen BK163.out 1
         have hfz37_2:=blk_frozen BK163.out 2
         have hfz37_3:=blk_frozen BK163.out 3
         have hfz37_4:=blk_frozen BK163.out 4
         have hfz37_5:=blk_frozen BK163.out 5
         go_wp2
         repeat (go_quiet (fail);try go_wp2)
         go_ret
         exact ⟨by first|rfl|(simp [errW_none,errW_some]<;>rfl)|(simp [*,errW_none,errW_some]<;>rfl),by repeat (first|(with_reducible first|exact HB.out|apply below_alloc|apply pw_below_drewN|apply below_drew1|refine below_set ?_ GE163.out)|exact HB.out)⟩
        ·rw [if_neg c36] at H
         have c36b0:(a0_4.toList==([]:List UInt8))=false:=beq_eq_false_iff_ne.mpr c36
         have c36b1:(a0_4.toList != ([]:List UInt8))=true:=bne_iff_ne.mpr c36
         by_cases c38:(l0_3.length:Int)=0
         ·rw [if_pos c38] at H
          have c38b0:((l0_3.length:Int)==0)=true:=beq_iff_eq.mpr c38
          have c38b1:((l0_3.length:Int) != 0)=false:=bne_eq_false_iff_eq.mpr c38
          clear c38
          obtain rfl:=Option.some.inj H
          have hcz39_0:wc.cell? ⟨gb163,0,none⟩=some (.int .i64 a0_0):=(blk_cell BK163.out 0).trans rfl
          have hcz39_1:wc.cell? ⟨gb163,1,none⟩=some (.int .i64 a0_1):=(blk_cell BK163.out 1).trans rfl
          have hcz39_2:wc.cell? ⟨gb163,2,none⟩=some (.string a0_2):=(blk_cell BK163.out 2).trans rfl
          have hcz39_3:wc.cell? ⟨gb163,3,none⟩=some (.slice A0_3 l0_3.length c0_3):=(blk_cell BK163.out 3).trans rfl
          have hcz39_4:wc.cell? ⟨gb163,4,none⟩=some (.string a0_4):=(blk_cell BK163.out 4).trans rfl
          have hcz39_5:wc.cell? ⟨gb163,5,none⟩=some (.int .i64 a0_5):=(blk_cell BK163.out 5).trans rfl
          have hfz39_0:=blk_frozen BK163.out 0
          have hfz39_1:=blk_frozen BK163.out 1
          have hfz39_2:=blk_frozen BK163.out 2
          have hfz39_3:=blk_frozen BK163.out 3
          have hfz39_4:=blk_frozen BK163.out 4
          have hfz39_5:=blk_frozen BK163.out 5
          go_wp2
          repeat (go_quiet (fail);try go_wp2)
          go_ret
          exact ⟨by first|rfl|(simp [errW_none,errW_some]<;>rfl)|(simp [*,errW_none,errW_some]<;>rfl),by repeat (first|(with_reducible first|exact HB.out|apply below_alloc|apply pw_below_drewN|apply below_drew1|refine below_set ?_ GE163.out)|exact HB.out)⟩
         ·rw [if_neg c38] at H
          have c38b0:((l0_3.length:Int)==0)=false:=beq_eq_false_iff_ne.mpr c38
          have c38b1:((l0_3.length:Int) != 0)=true:=bne_iff_ne.mpr c38
          have c38b2:¬ (l0_3=[]):=fun h_=>c38 (by rw [h_];rfl)
          obtain rfl:=Option.some.inj H
          have hcz40_0:wc.cell? ⟨gb163,0,none⟩=some (.int .i64 a0_0):=(blk_cell BK163.out 0).trans rfl
          have hcz40_1:wc.cell? ⟨gb163,1,none⟩=some (.int .i64 a0_1):=(blk_cell BK163.out 1).trans rfl
          have hcz40_2:wc.cell? ⟨gb163,2,none⟩=some (.string a0_2):=(blk_cell BK163.out 2).trans rfl
          have hcz40_3:wc.cell? ⟨gb163,3,none⟩=some (.slice A0_3 l0_3.length c0_3):=(blk_cell BK163.out 3).trans rfl
          have hcz40_4:wc.cell? ⟨gb163,4,none⟩=some (.string a0_4):=(blk_cell BK163.out 4).trans rfl
          have hcz40_5:wc.cell? ⟨gb163,5,none⟩=some (.int .i64 a0_5):=(blk_cell BK163.out 5).trans rfl
          have hfz40_0:=blk_frozen BK163.out 0
          have hfz40_1:=blk_frozen BK163.out 1
          have hfz40_2:=blk_frozen BK163.out 2
          have hfz40_3:=blk_frozen BK163.out 3
          have hfz40_4:=blk_frozen BK163.out 4
          have hfz40_5:=blk_frozen BK163.out 5
          go_wp2
          repeat (go_quiet (fail);try go_wp2)
          go_ret
          exact ⟨by first|rfl|(simp [errW_none,errW_some]<;>rfl)|(simp [*,errW_none,errW_some]<;>rfl),by repeat (first|(with_reducible first|exact HB.out|apply below_alloc|apply pw_below_drewN|apply below_drew1|refine below_set ?_ GE163.out)|exact HB.out)⟩
       ·rw [if_neg c35] at H
        have c35b0:(a0_2.toList==([]:List UInt8))=false:=beq_eq_false_iff_ne.mpr c35
        have c35b1:(a0_2.toList != ([]:List UInt8))=true:=bne_iff_ne.mpr c35
        obtain rfl:=Option.some.inj H
        have hcz41_0:wc.cell? ⟨gb163,0,none⟩=some (.int .i64 a0_0):=(blk_cell BK163.out 0).trans rfl
        have hcz41_1:wc.cell? ⟨gb163,1,none⟩=some (.int .i64 a0_1):=(blk_cell BK163.out 1).trans rfl
        have hcz41_2:wc.cell? ⟨gb163,2,none⟩=some (.string a0_2):=(blk_cell BK163.out 2).trans rfl
        have hcz41_3:wc.cell? ⟨gb163,3,none⟩=some (.slice A0_3 l0_3.length c0_3):=(blk_cell BK163.out 3).trans rfl
        have hcz41_4:wc.cell? ⟨gb163,4,none⟩=some (.string a0_4):=(blk_cell BK163.out 4).trans rfl
        have hcz41_5:wc.cell? ⟨gb163,5,none⟩=some (.int .i64 a0_5):=(blk_cell BK163.out 5).trans rfl
        have hfz41_0:=blk_frozen BK163.out 0
        have hfz41_1:=blk_frozen BK163.out 1
        have hfz41_2:=blk_frozen BK163.out 2
        have hfz41_3:=blk_frozen BK163.out 3
        have hfz41_4:=blk_frozen BK163.out 4
        have hfz41_5:=blk_frozen BK163.out 5
        go_wp2
        repeat (go_quiet (fail);try go_wp2)
        go_ret
        exact ⟨by first|rfl|(simp [errW_none,errW_some]<;>rfl)|(simp [*,errW_none,errW_some]<;>rfl),by repeat (first|(with_reducible first|exact HB.out|apply below_alloc|apply pw_below_drewN|apply below_drew1|refine below_set ?_ GE163.out)|exact HB.out)⟩
      ·rw [if_neg c34] at H
       have c34b0:(a0_1==3)=false:=beq_eq_false_iff_ne.mpr c34
       have c34b1:(a0_1 != 3)=true:=bne_iff_ne.mpr c34
       by_cases c42:a0_1=4
       ·rw [if_pos c42] at H
        have c42b0:(a0_1==4)=true:=beq_iff_eq.mpr c42
        have c42b1:(a0_1 != 4)=false:=bne_eq_false_iff_eq.mpr c42
        clear c42
        by_cases c43:a0_2.toList=([]:List UInt8)
        ·rw [if_pos c43] at H
         have c43b0:(a0_2.toList==([]:List UInt8))=true:=beq_iff_eq.mpr c43
         have c43b1:(a0_2.toList != ([]:List UInt8))=false:=bne_eq_false_iff_eq.mpr c43
         clear c43
         by_cases c44:(l0_3.length:Int)=0
         ·rw [if_pos c44] at H
          have c44b0:((l0_3.length:Int)==0)=true:=beq_iff_eq.mpr c44
          have c44b1:((l0_3.length:Int) != 0)=false:=bne_eq_false_iff_eq.mpr c44
          clear c44
          obtain rfl:=Option.some.inj H
          have hcz45_0:wc.cell? ⟨gb163,0,none⟩=some (.int .i64 a0_0):=(blk_cell BK163.out 0).trans rfl
          have hcz45_1:wc.cell? ⟨gb163,1,none⟩=some (.int .i64 a0_1):=(blk_cell BK163.out 1).trans rfl
          have hcz45_2:wc.cell? ⟨gb163,2,none⟩=some (.string a0_2):=(blk_cell BK163.out 2).trans rfl
          have hcz45_3:wc.cell? ⟨gb163,3,none⟩=some (.slice A0_3 l0_3.length c0_3):=(blk_cell BK163.out 3).trans rfl
          have hcz45_4:wc.cell? ⟨gb163,4,none⟩=some (.string a0_4):=(blk_cell BK163.out 4).trans rfl
          have hcz45_5:wc.cell? ⟨gb163,5,none⟩=some (.int .i64 a0_5):=(blk_cell BK163.out 5).trans rfl
          have hfz45_0:=blk_frozen BK163.out 0
          have hfz45_1:=blk_frozen BK163.out 1
          have hfz45_2:=blk_frozen BK163.out 2
          have hfz45_3:=blk_frozen BK163.out 3
          have hfz45_4:=blk_frozen BK163.out 4
          have hfz45_5:=blk_frozen BK163.out 5
          go_wp2
          repeat (go_quiet (fail);try go_wp2)
          go_ret
          exact ⟨by first|rfl|(simp [errW_none,errW_some]<;>rfl)|(simp [*,errW_none,errW_some]<;>rfl),by repeat (first|(with_reducible first|exact HB.out|apply below_alloc|apply pw_below_drewN|apply below_drew1|refine below_set ?_ GE163.out)|exact HB.out)⟩
         ·rw [if_neg c44] at H
          have c44b0:((l0_3.length:Int)==0)=false:=beq_eq_false_iff_ne.mpr c44
          have c44b1:((l0_3.length:Int) != 0)=true:=bne_iff_ne.mpr c44
          have c44b2:¬ (l0_3=[]):=fun h_=>c44 (by rw [h_];rfl)
          obtain rfl:=Option.some.inj H
          have hcz46_0:wc.cell? ⟨gb163,0,none⟩=some (.int .i64 a0_0):=(blk_cell BK163.out 0).trans rfl
          have hcz46_1:wc.cell? ⟨gb163,1,none⟩=some (.int .i64 a0_1):=(blk_cell BK163.out 1).trans rfl
          have hcz46_2:wc.cell? ⟨gb163,2,none⟩=some (.string a0_2):=(blk_cell BK163.out 2).trans rfl
          have hcz46_3:wc.cell? ⟨gb163,3,none⟩=some (.slice A0_3 l0_3.length c0_3):=(blk_cell BK163.out 3).trans rfl
          have hcz46_4:wc.cell? ⟨gb163,4,none⟩=some (.string a0_4):=(blk_cell BK163.out 4).trans rfl
          have hcz46_5:wc.cell? ⟨gb163,5,none⟩=some (.int .i64 a0_5):=(blk_cell BK163.out 5).trans rfl
          have hfz46_0:=blk_frozen BK163.out 0
          have hfz46_1:=blk_frozen BK163.out 1
          have hfz46_2:=blk_frozen BK163.out 2
          have hfz46_3:=blk_frozen BK163.out 3
          have hfz46_4:=blk_frozen BK163.out 4
          have hfz46_5:=blk_frozen BK163.out 5
          go_wp2
          repeat (go_quiet (fail);try go_wp2)
          go_ret
          exact ⟨by first|rfl|(simp [errW_none,errW_some]<;>rfl)|(simp [*,errW_none,errW_some]<;>rfl),by repeat (first|(with_reducible first|exact HB.out|apply below_alloc|apply pw_below_drewN|apply below_drew1|refine below_set ?_ GE163.out)|exact HB.out)⟩
        ·rw [if_neg c43] at H
         have c43b0:(a0_2.toList==([]:List UInt8))=false:=beq_eq_false_iff_ne.mpr c43
         have c43b1:(a0_2.toList != ([]:List UInt8))=true:=bne_iff_ne.mpr c43
         obtain rfl:=Option.some.inj H
         have hcz47_0:wc.cell? ⟨gb163,0,none⟩=some (.int .i64 a0_0):=(blk_cell BK163.out 0).trans rfl
         have hcz47_1:wc.cell? ⟨gb163,1,none⟩=some (.int .i64 a0_1):=(blk_cell BK163.out 1).trans rfl
         have hcz47_2:wc.cell? ⟨gb163,2,none⟩=some (.string a0_2):=(blk_cell BK163.out 2).trans rfl
         have hcz47_3:wc.cell? ⟨gb163,3,none⟩=some (.slice A0_3 l0_3.length c0_3):=(blk_cell BK163.out 3).trans rfl
         have hcz47_4:wc.cell? ⟨gb163,4,none⟩=some (.string a0_4):=(blk_cell BK163.out 4).trans rfl
         have hcz47_5:wc.cell? ⟨gb163,5,none⟩=some (.int .i64 a0_5):=(blk_cell BK163.out 5).trans rfl
         have hfz47_0:=blk_frozen BK163.out 0
         have hfz47_1:=blk_frozen BK163.out 1
         have hfz47_2:=blk_frozen BK163.out 2
         have hfz47_3:=blk_frozen BK163.out 3
         have hfz47_4:=blk_frozen BK163.out 4
         have hfz47_5:=blk_frozen BK163.out 5
         go_wp2
         repeat (go_quiet (fail);try go_wp2)
         go_ret
         exact ⟨by first|rfl|(simp [errW_none,errW_some]<;>rfl)|(simp [*,errW_none,errW_some]<;>rfl),by repeat (first|(with_reducible first|exact HB.out|apply below_alloc|apply pw_below_drewN|apply below_drew1|refine below_set ?_ GE163.out)|exact HB.out)⟩
       ·rw [if_neg c42] at H
        have c42b0:(a0_1==4)=false:=beq_eq_false_iff_ne.mpr c42
        have c42b1:(a0_1 != 4)=true:=bne_iff_ne.mpr c42
        by_cases c48:a0_1=5
        ·rw [if_pos c48] at H
         have c48b0:(a0_1==5)=true:=beq_iff_eq.mpr c48
         have c48b1:(a0_1 != 5)=false:=bne_eq_false_iff_eq.mpr c48
         clear c48
         by_cases c49:a0_4.toList=([]:List UInt8)
         ·rw [if_pos c49] at H
          have c49b0:(a0_4.toList==([]:List UInt8))=true:=beq_iff_eq.mpr c49
          have c49b1:(a0_4.toList != ([]:List UInt8))=false:=bne_eq_false_iff_eq.mpr c49
          clear c49
          by_cases c50:(l0_3.length:Int)=0
          ·rw [if_pos c50] at H
           have c50b0:((l0_3.length:Int)==0)=true:=beq_iff_eq.mpr c50
           have c50b1:((l0_3.length:Int) != 0)=false:=bne_eq_false_iff_eq.mpr c50
           clear c50
           obtain rfl:=Option.some.inj H
           have hcz51_0:wc.cell? ⟨gb163,0,none⟩=some (.int .i64 a0_0):=(blk_cell BK163.out 0).trans rfl
           have hcz51_1:wc.cell? ⟨gb163,1,none⟩=some (.int .i64 a0_1):=(blk_cell BK163.out 1).trans rfl
           have hcz51_2:wc.cell? ⟨gb163,2,none⟩=some (.string a0_2):=(blk_cell BK163.out 2).trans rfl
           have hcz51_3:wc.cell? ⟨gb163,3,none⟩=some (.slice A0_3 l0_3.length c0_3):=(blk_cell BK163.out 3).trans rfl
           have hcz51_4:wc.cell? ⟨gb163,4,none⟩=some (.string a0_4):=(blk_cell BK163.out 4).trans rfl
           have hcz51_5:wc.cell? ⟨gb163,5,none⟩=some (.int .i64 a0_5):=(blk_cell BK163.out 5).trans rfl
           have hfz51_0:=blk_frozen BK163.out 0
           have hfz51_1:=blk_frozen BK163.out 1
           have hfz51_2:=blk_frozen BK163.out 2
           have hfz51_3:=blk_frozen BK163.out 3
           have hfz51_4:=blk_frozen BK163.out 4
           have hfz51_5:=blk_frozen BK163.out 5
           go_wp2
           repeat (go_quiet (fail);try go_wp2)
           go_ret
           exact ⟨by first|rfl|(simp [errW_none,errW_some]<;>rfl)|(simp [*,errW_none,errW_some]<;>rfl),by repeat (first|(with_reducible first|exact HB.out|apply below_alloc|apply pw_below_drewN|apply below_drew1|refine below_set ?_ GE163.out)|exact HB.out)⟩
          ·rw [if_neg c50] at H
           have c50b0:((l0_3.length:Int)==0)=false:=beq_eq_false_iff_ne.mpr c50
           have c50b1:((l0_3.length:Int) != 0)=true:=bne_iff_ne.mpr c50
           have c50b2:¬ (l0_3=[]):=fun h_=>c50 (by rw [h_];rfl)
           obtain rfl:=Option.some.inj H
           have hcz52_0:wc.cell? ⟨gb163,0,none⟩=some (.int .i64 a0_0):=(blk_cell BK163.out 0).trans rfl
           have hcz52_1:wc.cell? ⟨gb163,1,none⟩=some (.int .i64 a0_1):=(blk_cell BK163.out 1).trans rfl
           have hcz52_2:wc.cell? ⟨gb163,2,none⟩=some (.string a0_2):=(blk_cell BK163.out 2).trans rfl
           have hcz52_3:wc.cell? ⟨gb163,3,none⟩=some (.slice A0_3 l0_3.length c0_3):=(blk_cell BK163.out 3).trans rfl
           have hcz52_4:wc.cell? ⟨gb163,4,none⟩=some (.string a0_4):=(blk_cell BK163.out 4).trans rfl
           have hcz52_5:wc.cell? ⟨gb163,5,none⟩=some (.int .i64 a0_5):=(blk_cell BK163.out 5).trans rfl
           have hfz52_0:=blk_frozen BK163.out 0
           have hfz52_1:=blk_frozen BK163.out 1
           have hfz52_2:=blk_frozen BK163.out 2
           have hfz52_3:=blk_frozen BK163.out 3
           have hfz52_4:=blk_frozen BK163.out 4
           have hfz52_5:=blk_frozen BK163.out 5
           go_wp2
           repeat (go_quiet (fail);try go_wp2)
           go_ret
           exact ⟨by first|rfl|(simp [errW_none,errW_some]<;>rfl)|(simp [*,errW_none,errW_some]<;>rfl),by repeat (first|(with_reducible first|exact HB.out|apply below_alloc|apply pw_below_drewN|apply below_drew1|refine below_set ?_ GE163.out)|exact HB.out)⟩
         ·rw [if_neg c49] at H
          have c49b0:(a0_4.toList==([]:List UInt8))=false:=beq_eq_false_iff_ne.mpr c49
          have c49b1:(a0_4.toList != ([]:List UInt8))=true:=bne_iff_ne.mpr c49
          obtain rfl:=Option.some.inj H
          have hcz53_0:wc.cell? ⟨gb163,0,none⟩=some (.int .i64 a0_0):=(blk_cell BK163.out 0).trans rfl
          have hcz53_1:wc.cell? ⟨gb163,1,none⟩=some (.int .i64 a0_1):=(blk_cell BK163.out 1).trans rfl
          have hcz53_2:wc.cell? ⟨gb163,2,none⟩=some (.string a0_2):=(blk_cell BK163.out 2).trans rfl
          have hcz53_3:wc.cell? ⟨gb163,3,none⟩=some (.slice A0_3 l0_3.length c0_3):=(blk_cell BK163.out 3).trans rfl
          have hcz53_4:wc.cell? ⟨gb163,4,none⟩=some (.string a0_4):=(blk_cell BK163.out 4).trans rfl
          have hcz53_5:wc.cell? ⟨gb163,5,none⟩=some (.int .i64 a0_5):=(blk_cell BK163.out 5).trans rfl
          have hfz53_0:=blk_frozen BK163.out 0
          have hfz53_1:=blk_frozen BK163.out 1
          have hfz53_2:=blk_frozen BK163.out 2
          have hfz53_3:=blk_frozen BK163.out 3
          have hfz53_4:=blk_frozen BK163.out 4
          have hfz53_5:=blk_frozen BK163.out 5
          go_wp2
          repeat (go_quiet (fail);try go_wp2)
          go_ret
          exact ⟨by first|rfl|(simp [errW_none,errW_some]<;>rfl)|(simp [*,errW_none,errW_some]<;>rfl),by repeat (first|(with_reducible first|exact HB.out|apply below_alloc|apply pw_below_drewN|apply below_drew1|refine below_set ?_ GE163.out)|exact HB.out)⟩
        ·rw [if_neg c48] at H
         have c48b0:(a0_1==5)=false:=beq_eq_false_iff_ne.mpr c48
         have c48b1:(a0_1 != 5)=true:=bne_iff_ne.mpr c48
         obtain rfl:=Option.some.inj H
         have hcz54_0:wc.cell? ⟨gb163,0,none⟩=some (.int .i64 a0_0):=(blk_cell BK163.out 0).trans rfl
         have hcz54_1:wc.cell? ⟨gb163,1,none⟩=some (.int .i64 a0_1):=(blk_cell BK163.out 1).trans rfl
         have hcz54_2:wc.cell? ⟨gb163,2,none⟩=some (.string a0_2):=(blk_cell BK163.out 2).trans rfl
         have hcz54_3:wc.cell? ⟨gb163,3,none⟩=some (.slice A0_3 l0_3.length c0_3):=(blk_cell BK163.out 3).trans rfl
         have hcz54_4:wc.cell? ⟨gb163,4,none⟩=some (.string a0_4):=(blk_cell BK163.out 4).trans rfl
         have hcz54_5:wc.cell? ⟨gb163,5,none⟩=some (.int .i64 a0_5):=(blk_cell BK163.out 5).trans rfl
         have hfz54_0:=blk_frozen BK163.out 0
         have hfz54_1:=blk_frozen BK163.out 1
         have hfz54_2:=blk_frozen BK163.out 2
         have hfz54_3:=blk_frozen BK163.out 3
         have hfz54_4:=blk_frozen BK163.out 4
         have hfz54_5:=blk_frozen BK163.out 5
         go_wp2
         repeat (go_quiet (fail);try go_wp2)
         go_ret
         exact ⟨by first|rfl|(simp [errW_none,errW_some]<;>rfl)|(simp [*,errW_none,errW_some]<;>rfl),by repeat (first|(with_reducible first|exact HB.out|apply below_alloc|apply pw_below_drewN|apply below_drew1|refine below_set ?_ GE163.out)|exact HB.out)⟩
end Go.Proofs.YtjojmfhgfeflnaaGreatDoor.QFnExactInner
