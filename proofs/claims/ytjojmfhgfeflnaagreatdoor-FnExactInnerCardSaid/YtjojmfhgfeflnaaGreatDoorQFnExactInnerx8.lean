/- Written by a program (wip/tools/own_print.py) out of the walk that the kit's printer made; turned where it fell. -/
-- PRINTED by print.py (a twelfth state) out of the translation. Not trusted: Lean checks it.
import Derived.Test.YtjojmfhgfeflnaaGreatDoorQFnExactInnerx0
import Derived.Test.YtjojmfhgfeflnaaGreatDoorQFnExactInnerx7
namespace Go.Proofs.YtjojmfhgfeflnaaGreatDoor.QFnExactInner
open Go.RowKit Go.Proofs.YtjojmfhgfeflnaaGreatDoorV.PrintWords Go.Proofs.YtjojmfhgfeflnaaGreatDoorV.PrintLast Go.Proofs.YtjojmfhgfeflnaaGreatDoorV.PrintMore
attribute [local go_sem] max2_int min2_int max_two min_two max_three min_three max_four min_four   -- for this text's walks alone
set_option linter.unusedVariables false
set_option linter.unusedSimpArgs false
/-! ### impl_nodeRight: function 27 -/
def impl_nodeRight.j0:Nat→Bool→Int→Int→ByteArray→List (S77)→ByteArray→Int→Option (Bool)
 |0,_,_,_,_,_,_,_=>none
 |k+1,x24,x261000,x261001,x261002,x261003,x261004,x261005=>if x24=true then (some false) else (if x261001=1 then (if x261002.toList=([]:List UInt8) then (if (x261003.length:Int)=0 then (some (x261004.toList==([]:List UInt8))) else (some false)) else (some false)) else (if x261001=2 then (if x261002.toList=([]:List UInt8) then (some false) else (if x261004.toList=([]:List UInt8) then ((impl_attrsRight.f k x261003).bind fun t261=>(some t261)) else (some false))) else (if x261001=3 then (if x261004.toList=([]:List UInt8) then (some false) else (if x261002.toList=([]:List UInt8) then (if (x261003.length:Int)=0 then (some (x261005==0)) else (some false)) else (some false))) else (if x261001=4 then (if x261002.toList=([]:List UInt8) then (if (x261003.length:Int)=0 then (some (x261005==0)) else (some false)) else (some false)) else (if x261001=5 then (if x261004.toList=([]:List UInt8) then (if (x261003.length:Int)=0 then (some (x261005==0)) else (some false)) else (some false)) else (some false))))))
def impl_nodeRight.f (k:Nat) (a0_0:Int) (a0_1:Int) (a0_2:ByteArray) (l0_3:List (S77)) (a0_4:ByteArray) (a0_5:Int) (a1:Bool):Option (Bool):=if a0_0<0 then (impl_nodeRight.j0 k true a0_0 a0_1 a0_2 l0_3 a0_4 a0_5) else (if a0_0 > 1000000 then (impl_nodeRight.j0 k true a0_0 a0_1 a0_2 l0_3 a0_4 a0_5) else (if a0_5<0 then (impl_nodeRight.j0 k true a0_0 a0_1 a0_2 l0_3 a0_4 a0_5) else (impl_nodeRight.j0 k (a1 != (a0_1==1)) a0_0 a0_1 a0_2 l0_3 a0_4 a0_5)))
theorem impl_nodeRight.mono_l:∀ k,(∀ y0 y1 y2 y3 y4 y5 y6,LeO (impl_nodeRight.j0 k y0 y1 y2 y3 y4 y5 y6) (impl_nodeRight.j0 (k+1) y0 y1 y2 y3 y4 y5 y6))
 |0=>fun _ _ _ _ _ _ _ r h=>by simp [impl_nodeRight.j0] at h
 |k+1=>by
  have ih0:=impl_nodeRight.mono_l k
  ·intro y0 y1 y2 y3 y4 y5 y6
   unfold impl_nodeRight.j0
   repeat' first
   |(with_reducible exact ih0 _ _ _ _ _ _ _)
   |(with_reducible exact impl_attrsRight.mono _ _)
   |(with_reducible exact LeO.refl _)
   |(with_reducible exact LeO.none _)
   |(with_reducible refine LeO.ite ?_ ?_)
   |(with_reducible refine LeO.bind ?_ (fun _=>?_))
   |exact ih0 _ _ _ _ _ _ _
   |exact impl_attrsRight.mono _ _
   |exact LeO.none _
   |refine LeO.ite ?_ ?_
   |refine LeO.bind ?_ (fun _=>?_)
theorem impl_nodeRight.mono:∀ a0 a1 a2 a3 a4 a5 a6 k,LeO (impl_nodeRight.f k a0 a1 a2 a3 a4 a5 a6) (impl_nodeRight.f (k+1) a0 a1 a2 a3 a4 a5 a6):=by
 intro a0 a1 a2 a3 a4 a5 a6 k
 have ih0:=impl_nodeRight.mono_l k
 unfold impl_nodeRight.f
 repeat' first
   |(with_reducible exact ih0 _ _ _ _ _ _ _)
   |(with_reducible exact impl_attrsRight.mono _ _)
   |(with_reducible exact LeO.refl _)
   |(with_reducible exact LeO.none _)
   |(with_reducible refine LeO.ite ?_ ?_)
   |(with_reducible refine LeO.bind ?_ (fun _=>?_))
   |exact ih0 _ _ _ _ _ _ _
   |exact impl_attrsRight.mono _ _
   |exact LeO.none _
   |refine LeO.ite ?_ ?_
   |refine LeO.bind ?_ (fun _=>?_)
set_option maxHeartbeats 8000000 in
set_option maxRecDepth 100000 in
theorem impl_nodeRight.calls (k:Nat) (a0_0:Int) (a0_1:Int) (a0_2:ByteArray) (A0_3:Option Addr) (c0_3:Nat) (l0_3:List (S77)) (a0_4:ByteArray) (a0_5:Int) (a1:Bool) (r:Bool) (w:World) (hr0_3:Kd.C k77 w A0_3 l0_3.length l0_3) (hc0_3:l0_3.length≤c0_3) (h:impl_nodeRight.f k a0_0 a0_1 a0_2 l0_3 a0_4 a0_5 a1=some r) :
  Calls Tryz.prog 27 #[.agg #[.int .i64 a0_0,.int .i64 a0_1,.string a0_2,.slice A0_3 l0_3.length c0_3,.string a0_4,.int .i64 a0_5],.bool a1] w fun e w'=>e=.returned (.bool r)∧Below w.heap.size w w':=by
 have hu57:=Tryz.underlying57
 have HR0_3:=Aside0.mk hr0_3
 have HC0_3:=Aside0.mk hc0_3
 clear hr0_3 hc0_3
 have HB:=Aside0.mk (Below.refl w.heap.size w)
 have H:(if a0_0<0 then (impl_nodeRight.j0 k true a0_0 a0_1 a0_2 l0_3 a0_4 a0_5) else (if a0_0 > 1000000 then (impl_nodeRight.j0 k true a0_0 a0_1 a0_2 l0_3 a0_4 a0_5) else (if a0_5<0 then (impl_nodeRight.j0 k true a0_0 a0_1 a0_2 l0_3 a0_4 a0_5) else (impl_nodeRight.j0 k (a1 != (a0_1==1)) a0_0 a0_1 a0_2 l0_3 a0_4 a0_5))))=some r:=h
 clear h
 have HC3:=Aside0.mk H
 clear H
 go_enter Tryz.func27,Tryz.ntmps27
 go_upto_region 1 with (first|((with_reducible refine gate_dst (N:=2) rfl ?_);(try (refine gate_guard (by rfl) ?_;dsimp only));refine box_event ?hg (N:=2) ?hd (cs:=#[.int .i64 a0_0,.int .i64 a0_1,.string a0_2,.slice A0_3 l0_3.length c0_3,.string a0_4,.int .i64 a0_5]) (t:=57) ?hr ?_;(case hd=>rfl);(case hg=>rfl);(case hr=>first|(go_simp;done)|(go_simp;rfl));intro gb260 hg w4 hbox hb;have n0_:=Aside0.mk (below_step (by repeat (first|(with_reducible first|exact HB.out|apply below_alloc|apply pw_below_drewN|apply below_drew1)|exact HB.out)) hb);have n1_:=Aside0.mk (hbox);have n2_:=Aside0.mk ((by rw [hg];exact (below_size (by repeat (first|(with_reducible first|exact HB.out|apply below_alloc|apply pw_below_drewN|apply below_drew1)|exact HB.out))):w.heap.size≤gb260));have n3_:=Aside0.mk ((by rw [hg];exact (below_size (by repeat (first|(with_reducible first|exact HB.out|apply below_alloc|apply pw_below_drewN|apply below_drew1)|exact HB.out))):w.heap.size≤gb260));clear HB;have HB:=n0_;have BK260:=n1_;have GW260:=n2_;have GE260:=n3_;clear n0_ n1_ n2_ n3_;clear hb hbox hg))
 (try simp only [Act.put,List.setIfInBounds_toArray,List.set_cons_zero,List.set_cons_succ])
 go_cut [24] (fun v24 wc=>∃ (kq:Nat) (x24_2:Bool),v24=.bool x24_2∧Aside0 (impl_nodeRight.j0 kq x24_2 a0_0 a0_1 a0_2 l0_3 a0_4 a0_5=some r)∧Aside0 (kq≤k)∧Aside0 (wc.heap[gb260]?=some (.cells #[.int .i64 a0_0,.int .i64 a0_1,.string a0_2,(.slice A0_3 l0_3.length c0_3),.string a0_4,.int .i64 a0_5] 57 (0,0)))∧Aside0 (Below w.heap.size w wc))
 case first=>
  have H:=HC3.out
  clear HC3
  by_cases c5:a0_0<0
  ·rw [if_pos c5] at H
   have c5b0:decide (a0_0<0)=true:=decide_eq_true c5
   clear c5
   (first|rw [c5b0]|(simp only [i64_w,i32_w];rw [c5b0])|rw [c5b1]|skip)
   have H':=Aside0.mk H
   clear H
   have hcz6_0:w4.cell? ⟨gb260,0,none⟩=some (.int .i64 a0_0):=(blk_cell BK260.out 0).trans rfl
   have hcz6_1:w4.cell? ⟨gb260,1,none⟩=some (.int .i64 a0_1):=(blk_cell BK260.out 1).trans rfl
   have hcz6_2:w4.cell? ⟨gb260,2,none⟩=some (.string a0_2):=(blk_cell BK260.out 2).trans rfl
   have hcz6_3:w4.cell? ⟨gb260,3,none⟩=some (.slice A0_3 l0_3.length c0_3):=(blk_cell BK260.out 3).trans rfl
   have hcz6_4:w4.cell? ⟨gb260,4,none⟩=some (.string a0_4):=(blk_cell BK260.out 4).trans rfl
   have hcz6_5:w4.cell? ⟨gb260,5,none⟩=some (.int .i64 a0_5):=(blk_cell BK260.out 5).trans rfl
   have hfz6_0:=blk_frozen BK260.out 0
   have hfz6_1:=blk_frozen BK260.out 1
   have hfz6_2:=blk_frozen BK260.out 2
   have hfz6_3:=blk_frozen BK260.out 3
   have hfz6_4:=blk_frozen BK260.out 4
   have hfz6_5:=blk_frozen BK260.out 5
   go_wp2
   go_meet
   case rel=>exact ⟨_,(true),(by first|rfl|(simp;done)|(simp [*];done)),H',⟨by first|omega|exact Nat.le_refl _⟩,⟨by (with_reducible repeat (first|refine blk_drewN ?_ _|refine blk_drew ?_|refine blk_alloc ?_ _));exact BK260.out⟩,⟨by repeat (first|(with_reducible first|exact HB.out|apply below_alloc|apply pw_below_drewN|apply below_drew1|refine below_set ?_ GE260.out)|exact HB.out)⟩⟩
  ·rw [if_neg c5] at H
   have c5b0:decide (a0_0<0)=false:=decide_eq_false c5
   clear c5
   (first|rw [c5b0]|(simp only [i64_w,i32_w];rw [c5b0])|rw [c5b1]|skip)
   by_cases c7:a0_0 > 1000000
   ·rw [if_pos c7] at H
    have c7b0:decide (1000000<a0_0)=true:=decide_eq_true c7
    clear c7
    have H':=Aside0.mk H
    clear H
    have hcz8_0:w4.cell? ⟨gb260,0,none⟩=some (.int .i64 a0_0):=(blk_cell BK260.out 0).trans rfl
    have hcz8_1:w4.cell? ⟨gb260,1,none⟩=some (.int .i64 a0_1):=(blk_cell BK260.out 1).trans rfl
    have hcz8_2:w4.cell? ⟨gb260,2,none⟩=some (.string a0_2):=(blk_cell BK260.out 2).trans rfl
    have hcz8_3:w4.cell? ⟨gb260,3,none⟩=some (.slice A0_3 l0_3.length c0_3):=(blk_cell BK260.out 3).trans rfl
    have hcz8_4:w4.cell? ⟨gb260,4,none⟩=some (.string a0_4):=(blk_cell BK260.out 4).trans rfl
    have hcz8_5:w4.cell? ⟨gb260,5,none⟩=some (.int .i64 a0_5):=(blk_cell BK260.out 5).trans rfl
    have hfz8_0:=blk_frozen BK260.out 0
    have hfz8_1:=blk_frozen BK260.out 1
    have hfz8_2:=blk_frozen BK260.out 2
    have hfz8_3:=blk_frozen BK260.out 3
    have hfz8_4:=blk_frozen BK260.out 4
    have hfz8_5:=blk_frozen BK260.out 5
    go_wp2
    go_meet
    case rel=>exact ⟨_,(true),(by first|rfl|(simp;done)|(simp [*];done)),H',⟨by first|omega|exact Nat.le_refl _⟩,⟨by (with_reducible repeat (first|refine blk_drewN ?_ _|refine blk_drew ?_|refine blk_alloc ?_ _));exact BK260.out⟩,⟨by repeat (first|(with_reducible first|exact HB.out|apply below_alloc|apply pw_below_drewN|apply below_drew1|refine below_set ?_ GE260.out)|exact HB.out)⟩⟩
   ·rw [if_neg c7] at H
    have c7b0:decide (1000000<a0_0)=false:=decide_eq_false c7
    clear c7
    by_cases c9:a0_5<0
    ·rw [if_pos c9] at H
     have c9b0:decide (a0_5<0)=true:=decide_eq_true c9
     clear c9
     have H':=Aside0.mk H
     clear H
     have hcz10_0:w4.cell? ⟨gb260,0,none⟩=some (.int .i64 a0_0):=(blk_cell BK260.out 0).trans rfl
     have hcz10_1:w4.cell? ⟨gb260,1,none⟩=some (.int .i64 a0_1):=(blk_cell BK260.out 1).trans rfl
     have hcz10_2:w4.cell? ⟨gb260,2,none⟩=some (.string a0_2):=(blk_cell BK260.out 2).trans rfl
     have hcz10_3:w4.cell? ⟨gb260,3,none⟩=some (.slice A0_3 l0_3.length c0_3):=(blk_cell BK260.out 3).trans rfl
     have hcz10_4:w4.cell? ⟨gb260,4,none⟩=some (.string a0_4):=(blk_cell BK260.out 4).trans rfl
     have hcz10_5:w4.cell? ⟨gb260,5,none⟩=some (.int .i64 a0_5):=(blk_cell BK260.out 5).trans rfl
     have hfz10_0:=blk_frozen BK260.out 0
     have hfz10_1:=blk_frozen BK260.out 1
     have hfz10_2:=blk_frozen BK260.out 2
     have hfz10_3:=blk_frozen BK260.out 3
     have hfz10_4:=blk_frozen BK260.out 4
     have hfz10_5:=blk_frozen BK260.out 5
     go_wp2
     go_meet
     case rel=>exact ⟨_,(true),(by first|rfl|(simp;done)|(simp [*];done)),H',⟨by first|omega|exact Nat.le_refl _⟩,⟨by (with_reducible repeat (first|refine blk_drewN ?_ _|refine blk_drew ?_|refine blk_alloc ?_ _));exact BK260.out⟩,⟨by repeat (first|(with_reducible first|exact HB.out|apply below_alloc|apply pw_below_drewN|apply below_drew1|refine below_set ?_ GE260.out)|exact HB.out)⟩⟩
    ·rw [if_neg c9] at H
     have c9b0:decide (a0_5<0)=false:=decide_eq_false c9
     clear c9
     have H':=Aside0.mk H
     clear H
     have hcz11_0:w4.cell? ⟨gb260,0,none⟩=some (.int .i64 a0_0):=(blk_cell BK260.out 0).trans rfl
     have hcz11_1:w4.cell? ⟨gb260,1,none⟩=some (.int .i64 a0_1):=(blk_cell BK260.out 1).trans rfl
     have hcz11_2:w4.cell? ⟨gb260,2,none⟩=some (.string a0_2):=(blk_cell BK260.out 2).trans rfl
     have hcz11_3:w4.cell? ⟨gb260,3,none⟩=some (.slice A0_3 l0_3.length c0_3):=(blk_cell BK260.out 3).trans rfl
     have hcz11_4:w4.cell? ⟨gb260,4,none⟩=some (.string a0_4):=(blk_cell BK260.out 4).trans rfl
     have hcz11_5:w4.cell? ⟨gb260,5,none⟩=some (.int .i64 a0_5):=(blk_cell BK260.out 5).trans rfl
     have hfz11_0:=blk_frozen BK260.out 0
     have hfz11_1:=blk_frozen BK260.out 1
     have hfz11_2:=blk_frozen BK260.out 2
     have hfz11_3:=blk_frozen BK260.out 3
     have hfz11_4:=blk_frozen BK260.out 4
     have hfz11_5:=blk_frozen BK260.out 5
     go_wp2
     go_meet
     case rel=>exact ⟨_,((a1 != (a0_1==1))),(by first|rfl|(simp;done)|(simp [*];done)),H',⟨by first|omega|exact Nat.le_refl _⟩,⟨by (with_reducible repeat (first|refine blk_drewN ?_ _|refine blk_drew ?_|refine blk_alloc ?_ _));exact BK260.out⟩,⟨by repeat (first|(with_reducible first|exact HB.out|apply below_alloc|apply pw_below_drewN|apply below_drew1|refine below_set ?_ GE260.out)|exact HB.out)⟩⟩
 case rest=>
  clear HC3
  try clear c2
  try clear p2
  try clear c5
  try clear c5b0
  try clear c7
  try clear c7b0
  try clear c9
  try clear c9b0
  try clear hcz10_0
  try clear hcz10_1
  try clear hcz10_2
  try clear hcz10_3
  try clear hcz10_4
  try clear hcz10_5
  try clear hcz11_0
  try clear hcz11_1
  try clear hcz11_2
  try clear hcz11_3
  try clear hcz11_4
  try clear hcz11_5
  try clear hcz6_0
  try clear hcz6_1
  try clear hcz6_2
  try clear hcz6_3
  try clear hcz6_4
  try clear hcz6_5
  try clear hcz8_0
  try clear hcz8_1
  try clear hcz8_2
  try clear hcz8_3
  try clear hcz8_4
  try clear hcz8_5
  try clear hfz10_0
  try clear hfz10_1
  try clear hfz10_2
  try clear hfz10_3
  try clear hfz10_4
  try clear hfz10_5
  try clear hfz11_0
  try clear hfz11_1
  try clear hfz11_2
  try clear hfz11_3
  try clear hfz11_4
  try clear hfz11_5
  try clear hfz6_0
  try clear hfz6_1
  try clear hfz6_2
  try clear hfz6_3
  try clear hfz6_4
  try clear hfz6_5
  try clear hfz8_0
  try clear hfz8_1
  try clear hfz8_2
  try clear hfz8_3
  try clear hfz8_4
  try clear hfz8_5
  obtain ⟨kq,x24_2,rfl,HA,HJ2,BK260,HB⟩:=hcut
  cases kq with
  |zero=>exact absurd HA.out (by simp [impl_nodeRight.j0])
  |succ kj2=>
   have H:=HA.out
   clear HA
   simp only [impl_nodeRight.j0] at H
   by_cases c12:x24_2=true
   ·subst c12
    have H1:(some false)=some r:=by rw [if_pos rfl] at H;exact H
    clear H
    have H:=H1
    clear H1
    obtain rfl:=Option.some.inj H
    go_wp2
    go_ret
    exact ⟨by first|rfl|(simp [errW_none,errW_some]<;>rfl)|(simp [*,errW_none,errW_some]<;>rfl),by repeat (first|(with_reducible first|exact HB.out|apply below_alloc|apply pw_below_drewN|apply below_drew1|refine below_set ?_ GE260.out)|exact HB.out)⟩
   ·replace c12:=Bool.eq_false_iff.mpr c12
    subst c12
    have H1:(if a0_1=1 then (if a0_2.toList=([]:List UInt8) then (if (l0_3.length:Int)=0 then (some (a0_4.toList==([]:List UInt8))) else (some false)) else (some false)) else (if a0_1=2 then (if a0_2.toList=([]:List UInt8) then (some false) else (if a0_4.toList=([]:List UInt8) then ((impl_attrsRight.f kj2 l0_3).bind fun t261=>(some t261)) else (some false))) else (if a0_1=3 then (if a0_4.toList=([]:List UInt8) then (some false) else (if a0_2.toList=([]:List UInt8) then (if (l0_3.length:Int)=0 then (some (a0_5==0)) else (some false)) else (some false))) else (if a0_1=4 then (if a0_2.toList=([]:List UInt8) then (if (l0_3.length:Int)=0 then (some (a0_5==0)) else (some false)) else (some false)) else (if a0_1=5 then (if a0_4.toList=([]:List UInt8) then (if (l0_3.length:Int)=0 then (some (a0_5==0)) else (some false)) else (some false)) else (some false))))))=some r:=by rw [if_neg (show ¬ (false=true) by decide)] at H;exact H
    clear H
    have H:=H1
    clear H1
    by_cases c13:a0_1=1
    ·rw [if_pos c13] at H
     have c13b0:(a0_1==1)=true:=beq_iff_eq.mpr c13
     have c13b1:(a0_1 != 1)=false:=bne_eq_false_iff_eq.mpr c13
     clear c13
     by_cases c14:a0_2.toList=([]:List UInt8)
     ·rw [if_pos c14] at H
      have c14b0:(a0_2.toList==([]:List UInt8))=true:=beq_iff_eq.mpr c14
      have c14b1:(a0_2.toList != ([]:List UInt8))=false:=bne_eq_false_iff_eq.mpr c14
      clear c14
      by_cases c15:(l0_3.length:Int)=0
      ·rw [if_pos c15] at H
       have c15b0:((l0_3.length:Int)==0)=true:=beq_iff_eq.mpr c15
       have c15b1:((l0_3.length:Int) != 0)=false:=bne_eq_false_iff_eq.mpr c15
       clear c15
       obtain rfl:=Option.some.inj H
       have hcz16_0:wc.cell? ⟨gb260,0,none⟩=some (.int .i64 a0_0):=(blk_cell BK260.out 0).trans rfl
       have hcz16_1:wc.cell? ⟨gb260,1,none⟩=some (.int .i64 a0_1):=(blk_cell BK260.out 1).trans rfl
       have hcz16_2:wc.cell? ⟨gb260,2,none⟩=some (.string a0_2):=(blk_cell BK260.out 2).trans rfl
       have hcz16_3:wc.cell? ⟨gb260,3,none⟩=some (.slice A0_3 l0_3.length c0_3):=(blk_cell BK260.out 3).trans rfl
       have hcz16_4:wc.cell? ⟨gb260,4,none⟩=some (.string a0_4):=(blk_cell BK260.out 4).trans rfl
       have hcz16_5:wc.cell? ⟨gb260,5,none⟩=some (.int .i64 a0_5):=(blk_cell BK260.out 5).trans rfl
       have hfz16_0:=blk_frozen BK260.out 0
       have hfz16_1:=blk_frozen BK260.out 1
       have hfz16_2:=blk_frozen BK260.out 2
       have hfz16_3:=blk_frozen BK260.out 3
       have hfz16_4:=blk_frozen BK260.out 4
       have hfz16_5:=blk_frozen BK260.out 5
       go_wp2
       go_ret
       exact ⟨by first|rfl|(simp [errW_none,errW_some]<;>rfl)|(simp [*,errW_none,errW_some]<;>rfl),by repeat (first|(with_reducible first|exact HB.out|apply below_alloc|apply pw_below_drewN|apply below_drew1|refine below_set ?_ GE260.out)|exact HB.out)⟩
      ·rw [if_neg c15] at H
       have c15b0:((l0_3.length:Int)==0)=false:=beq_eq_false_iff_ne.mpr c15
       have c15b1:((l0_3.length:Int) != 0)=true:=bne_iff_ne.mpr c15
       have c15b2:¬ (l0_3=[]):=fun h_=>c15 (by rw [h_];rfl)
       obtain rfl:=Option.some.inj H
       have hcz17_0:wc.cell? ⟨gb260,0,none⟩=some (.int .i64 a0_0):=(blk_cell BK260.out 0).trans rfl
       have hcz17_1:wc.cell? ⟨gb260,1,none⟩=some (.int .i64 a0_1):=(blk_cell BK260.out 1).trans rfl
       have hcz17_2:wc.cell? ⟨gb260,2,none⟩=some (.string a0_2):=(blk_cell BK260.out 2).trans rfl
       have hcz17_3:wc.cell? ⟨gb260,3,none⟩=some (.slice A0_3 l0_3.length c0_3):=(blk_cell BK260.out 3).trans rfl
       have hcz17_4:wc.cell? ⟨gb260,4,none⟩=some (.string a0_4):=(blk_cell BK260.out 4).trans rfl
       have hcz17_5:wc.cell? ⟨gb260,5,none⟩=some (.int .i64 a0_5):=(blk_cell BK260.out 5).trans rfl
       have hfz17_0:=blk_frozen BK260.out 0
       have hfz17_1:=blk_frozen BK260.out 1
       have hfz17_2:=blk_frozen BK260.out 2
       have hfz17_3:=blk_frozen BK260.out 3
       have hfz17_4:=blk_frozen BK260.out 4
       have hfz17_5:=blk_frozen BK260.out 5
       go_wp2
       go_ret
       exact ⟨by first|rfl|(simp [errW_none,errW_some]<;>rfl)|(simp [*,errW_none,errW_some]<;>rfl),by repeat (first|(with_reducible first|exact HB.out|apply below_alloc|apply pw_below_drewN|apply below_drew1|refine below_set ?_ GE260.out)|exact HB.out)⟩
     ·rw [if_neg c14] at H
      have c14b0:(a0_2.toList==([]:List UInt8))=false:=beq_eq_false_iff_ne.mpr c14
      have c14b1:(a0_2.toList != ([]:List UInt8))=true:=bne_iff_ne.mpr c14
      obtain rfl:=Option.some.inj H
      have hcz18_0:wc.cell? ⟨gb260,0,none⟩=some (.int .i64 a0_0):=(blk_cell BK260.out 0).trans rfl
      have hcz18_1:wc.cell? ⟨gb260,1,none⟩=some (.int .i64 a0_1):=(blk_cell BK260.out 1).trans rfl
      have hcz18_2:wc.cell? ⟨gb260,2,none⟩=some (.string a0_2):=(blk_cell BK260.out 2).trans rfl
      have hcz18_3:wc.cell? ⟨gb260,3,none⟩=some (.slice A0_3 l0_3.length c0_3):=(blk_cell BK260.out 3).trans rfl
      have hcz18_4:wc.cell? ⟨gb260,4,none⟩=some (.string a0_4):=(blk_cell BK260.out 4).trans rfl
      have hcz18_5:wc.cell? ⟨gb260,5,none⟩=some (.int .i64 a0_5):=(blk_cell BK260.out 5).trans rfl
      have hfz18_0:=blk_frozen BK260.out 0
      have hfz18_1:=blk_frozen BK260.out 1
      have hfz18_2:=blk_frozen BK260.out 2
      have hfz18_3:=blk_frozen BK260.out 3
      have hfz18_4:=blk_frozen BK260.out 4
      have hfz18_5:=blk_frozen BK260.out 5
      go_wp2
      go_ret
      exact ⟨by first|rfl|(simp [errW_none,errW_some]<;>rfl)|(simp [*,errW_none,errW_some]<;>rfl),by repeat (first|(with_reducible first|exact HB.out|apply below_alloc|apply pw_below_drewN|apply below_drew1|refine below_set ?_ GE260.out)|exact HB.out)⟩
    ·rw [if_neg c13] at H
     have c13b0:(a0_1==1)=false:=beq_eq_false_iff_ne.mpr c13
     have c13b1:(a0_1 != 1)=true:=bne_iff_ne.mpr c13
     by_cases c19:a0_1=2
     ·rw [if_pos c19] at H
      have c19b0:(a0_1==2)=true:=beq_iff_eq.mpr c19
      have c19b1:(a0_1 != 2)=false:=bne_eq_false_iff_eq.mpr c19
      clear c19
      by_cases c20:a0_2.toList=([]:List UInt8)
      ·rw [if_pos c20] at H
       have c20b0:(a0_2.toList==([]:List UInt8))=true:=beq_iff_eq.mpr c20
       have c20b1:(a0_2.toList != ([]:List UInt8))=false:=bne_eq_false_iff_eq.mpr c20
       clear c20
       obtain rfl:=Option.some.inj H
       have hcz21_0:wc.cell? ⟨gb260,0,none⟩=some (.int .i64 a0_0):=(blk_cell BK260.out 0).trans rfl
       have hcz21_1:wc.cell? ⟨gb260,1,none⟩=some (.int .i64 a0_1):=(blk_cell BK260.out 1).trans rfl
       have hcz21_2:wc.cell? ⟨gb260,2,none⟩=some (.string a0_2):=(blk_cell BK260.out 2).trans rfl
       have hcz21_3:wc.cell? ⟨gb260,3,none⟩=some (.slice A0_3 l0_3.length c0_3):=(blk_cell BK260.out 3).trans rfl
       have hcz21_4:wc.cell? ⟨gb260,4,none⟩=some (.string a0_4):=(blk_cell BK260.out 4).trans rfl
       have hcz21_5:wc.cell? ⟨gb260,5,none⟩=some (.int .i64 a0_5):=(blk_cell BK260.out 5).trans rfl
       have hfz21_0:=blk_frozen BK260.out 0
       have hfz21_1:=blk_frozen BK260.out 1
       have hfz21_2:=blk_frozen BK260.out 2
       have hfz21_3:=blk_frozen BK260.out 3
       have hfz21_4:=blk_frozen BK260.out 4
       have hfz21_5:=blk_frozen BK260.out 5
       go_wp2
       go_ret
       exact ⟨by first|rfl|(simp [errW_none,errW_some]<;>rfl)|(simp [*,errW_none,errW_some]<;>rfl),by repeat (first|(with_reducible first|exact HB.out|apply below_alloc|apply pw_below_drewN|apply below_drew1|refine below_set ?_ GE260.out)|exact HB.out)⟩
      ·rw [if_neg c20] at H
       have c20b0:(a0_2.toList==([]:List UInt8))=false:=beq_eq_false_iff_ne.mpr c20
       have c20b1:(a0_2.toList != ([]:List UInt8))=true:=bne_iff_ne.mpr c20
       by_cases c22:a0_4.toList=([]:List UInt8)
       ·rw [if_pos c22] at H
        have c22b0:(a0_4.toList==([]:List UInt8))=true:=beq_iff_eq.mpr c22
        have c22b1:(a0_4.toList != ([]:List UInt8))=false:=bne_eq_false_iff_eq.mpr c22
        clear c22
        replace H:=Option.bind_eq_some_iff.mp H
        obtain ⟨t261,A230,H⟩:=H
        replace H:(some t261)=some r:=H
        have A23:=Aside0.mk A230
        clear A230
        obtain rfl:=Option.some.inj H
        have hcz24_0:wc.cell? ⟨gb260,0,none⟩=some (.int .i64 a0_0):=(blk_cell BK260.out 0).trans rfl
        have hcz24_1:wc.cell? ⟨gb260,1,none⟩=some (.int .i64 a0_1):=(blk_cell BK260.out 1).trans rfl
        have hcz24_2:wc.cell? ⟨gb260,2,none⟩=some (.string a0_2):=(blk_cell BK260.out 2).trans rfl
        have hcz24_3:wc.cell? ⟨gb260,3,none⟩=some (.slice A0_3 l0_3.length c0_3):=(blk_cell BK260.out 3).trans rfl
        have hcz24_4:wc.cell? ⟨gb260,4,none⟩=some (.string a0_4):=(blk_cell BK260.out 4).trans rfl
        have hcz24_5:wc.cell? ⟨gb260,5,none⟩=some (.int .i64 a0_5):=(blk_cell BK260.out 5).trans rfl
        have hfz24_0:=blk_frozen BK260.out 0
        have hfz24_1:=blk_frozen BK260.out 1
        have hfz24_2:=blk_frozen BK260.out 2
        have hfz24_3:=blk_frozen BK260.out 3
        have hfz24_4:=blk_frozen BK260.out 4
        have hfz24_5:=blk_frozen BK260.out 5
        go_wp2_with (first|(go_at_call 38;(with_reducible refine (impl_attrsRight.calls kj2 _ _ l0_3 t261 _ ?side1 ?side2 A23.out).mono ?_);(case side1=>repeat (first|exact (Kd.C_below HR0_3.out HB.out)|(with_reducible refine Kd.C_alloc ?_ _)|(with_reducible refine Kd.C_drewN ?_ _)|(with_reducible refine Kd.C_drew ?_)));(case side2=>exact HC0_3.out);rintro e w25 ⟨rfl,hb⟩;have n0_:=Aside0.mk (blk_below (g:=gb260) (o:=.cells #[.int .i64 a0_0,.int .i64 a0_1,.string a0_2,.slice A0_3 l0_3.length c0_3,.string a0_4,.int .i64 a0_5] 57 (0,0)) (by (with_reducible repeat (first|refine blk_drewN ?_ _|refine blk_drew ?_|refine blk_alloc ?_ _));exact BK260.out) hb);have n1_:=Aside0.mk (below_step (by repeat (first|(with_reducible first|exact HB.out|apply below_alloc|apply pw_below_drewN|apply below_drew1|refine below_set ?_ GE260.out)|exact HB.out)) hb);clear BK260;clear HB;have BK260:=n0_;have HB:=n1_;clear n0_ n1_;(try clear hb);(try clear hb2);(try clear hk);(try clear hi)))
        go_ret
        exact ⟨by first|rfl|(simp [errW_none,errW_some]<;>rfl)|(simp [*,errW_none,errW_some]<;>rfl),by repeat (first|(with_reducible first|exact HB.out|apply below_alloc|apply pw_below_drewN|apply below_drew1|refine below_set ?_ GE260.out)|exact HB.out)⟩
       ·rw [if_neg c22] at H
        have c22b0:(a0_4.toList==([]:List UInt8))=false:=beq_eq_false_iff_ne.mpr c22
        have c22b1:(a0_4.toList != ([]:List UInt8))=true:=bne_iff_ne.mpr c22
        obtain rfl:=Option.some.inj H
        have hcz26_0:wc.cell? ⟨gb260,0,none⟩=some (.int .i64 a0_0):=(blk_cell BK260.out 0).trans rfl
        have hcz26_1:wc.cell? ⟨gb260,1,none⟩=some (.int .i64 a0_1):=(blk_cell BK260.out 1).trans rfl
        have hcz26_2:wc.cell? ⟨gb260,2,none⟩=some (.string a0_2):=(blk_cell BK260.out 2).trans rfl
        have hcz26_3:wc.cell? ⟨gb260,3,none⟩=some (.slice A0_3 l0_3.length c0_3):=(blk_cell BK260.out 3).trans rfl
        have hcz26_4:wc.cell? ⟨gb260,4,none⟩=some (.string a0_4):=(blk_cell BK260.out 4).trans rfl
        have hcz26_5:wc.cell? ⟨gb260,5,none⟩=some (.int .i64 a0_5):=(blk_cell BK260.out 5).trans rfl
        have hfz26_0:=blk_frozen BK260.out 0
        have hfz26_1:=blk_frozen BK260.out 1
        have hfz26_2:=blk_frozen BK260.out 2
        have hfz26_3:=blk_frozen BK260.out 3
        have hfz26_4:=blk_frozen BK260.out 4
        have hfz26_5:=blk_frozen BK260.out 5
        go_wp2
        go_ret
        exact ⟨by first|rfl|(simp [errW_none,errW_some]<;>rfl)|(simp [*,errW_none,errW_some]<;>rfl),by repeat (first|(with_reducible first|exact HB.out|apply below_alloc|apply pw_below_drewN|apply below_drew1|refine below_set ?_ GE260.out)|exact HB.out)⟩
     ·rw [if_neg c19] at H
      have c19b0:(a0_1==2)=false:=beq_eq_false_iff_ne.mpr c19
      have c19b1:(a0_1 != 2)=true:=bne_iff_ne.mpr c19
      by_cases c27:a0_1=3
      ·rw [if_pos c27] at H
       have c27b0:(a0_1==3)=true:=beq_iff_eq.mpr c27
       have c27b1:(a0_1 != 3)=false:=bne_eq_false_iff_eq.mpr c27
       clear c27
       by_cases c28:a0_4.toList=([]:List UInt8)
       ·rw [if_pos c28] at H
        have c28b0:(a0_4.toList==([]:List UInt8))=true:=beq_iff_eq.mpr c28
        have c28b1:(a0_4.toList != ([]:List UInt8))=false:=bne_eq_false_iff_eq.mpr c28
        clear c28
        obtain rfl:=Option.some.inj H
        have hcz29_0:wc.cell? ⟨gb260,0,none⟩=some (.int .i64 a0_0):=(blk_cell BK260.out 0).trans rfl
        have hcz29_1:wc.cell? ⟨gb260,1,none⟩=some (.int .i64 a0_1):=(blk_cell BK260.out 1).trans rfl
        have hcz29_2:wc.cell? ⟨gb260,2,none⟩=some (.string a0_2):=(blk_cell BK260.out 2).trans rfl
        have hcz29_3:wc.cell? ⟨gb260,3,none⟩=some (.slice A0_3 l0_3.length c0_3):=(blk_cell BK260.out 3).trans rfl
        have hcz29_4:wc.cell? ⟨gb260,4,none⟩=some (.string a0_4):=(blk_cell BK260.out 4).trans rfl
        have hcz29_5:wc.cell? ⟨gb260,5,none⟩=some (.int .i64 a0_5):=(blk_cell BK260.out 5).trans rfl
        have hfz29_0:=blk_frozen BK260.out 0
        have hfz29_1:=blk_frozen BK260.out 1
        have hfz29_2:=blk_frozen BK260.out 2
        have hfz29_3:=blk_frozen BK260.out 3
        have hfz29_4:=blk_frozen BK260.out 4
        have hfz29_5:=blk_frozen BK260.out 5
        go_wp2
        go_ret
        exact ⟨by first|rfl|(simp [errW_none,errW_some]<;>rfl)|(simp [*,errW_none,errW_some]<;>rfl),by repeat (first|(with_reducible first|exact HB.out|apply below_alloc|apply pw_below_drewN|apply below_drew1|refine below_set ?_ GE260.out)|exact HB.out)⟩
       ·rw [if_neg c28] at H
        have c28b0:(a0_4.toList==([]:List UInt8))=false:=beq_eq_false_iff_ne.mpr c28
        have c28b1:(a0_4.toList != ([]:List UInt8))=true:=bne_iff_ne.mpr c28
        by_cases c30:a0_2.toList=([]:List UInt8)
        ·rw [if_pos c30] at H
         have c30b0:(a0_2.toList==([]:List UInt8))=true:=beq_iff_eq.mpr c30
         have c30b1:(a0_2.toList != ([]:List UInt8))=false:=bne_eq_false_iff_eq.mpr c30
         clear c30
         by_cases c31:(l0_3.length:Int)=0
         ·rw [if_pos c31] at H
          have c31b0:((l0_3.length:Int)==0)=true:=beq_iff_eq.mpr c31
          have c31b1:((l0_3.length:Int) != 0)=false:=bne_eq_false_iff_eq.mpr c31
          clear c31
          obtain rfl:=Option.some.inj H
          have hcz32_0:wc.cell? ⟨gb260,0,none⟩=some (.int .i64 a0_0):=(blk_cell BK260.out 0).trans rfl
          have hcz32_1:wc.cell? ⟨gb260,1,none⟩=some (.int .i64 a0_1):=(blk_cell BK260.out 1).trans rfl
          have hcz32_2:wc.cell? ⟨gb260,2,none⟩=some (.string a0_2):=(blk_cell BK260.out 2).trans rfl
          have hcz32_3:wc.cell? ⟨gb260,3,none⟩=some (.slice A0_3 l0_3.length c0_3):=(blk_cell BK260.out 3).trans rfl
          have hcz32_4:wc.cell? ⟨gb260,4,none⟩=some (.string a0_4):=(blk_cell BK260.out 4).trans rfl
          have hcz32_5:wc.cell? ⟨gb260,5,none⟩=some (.int .i64 a0_5):=(blk_cell BK260.out 5).trans rfl
          have hfz32_0:=blk_frozen BK260.out 0
          have hfz32_1:=blk_frozen BK260.out 1
          have hfz32_2:=blk_frozen BK260.out 2
          have hfz32_3:=blk_frozen BK260.out 3
          have hfz32_4:=blk_frozen BK260.out 4
          have hfz32_5:=blk_frozen BK260.out 5
          go_wp2
          go_ret
          exact ⟨by first|rfl|(simp [errW_none,errW_some]<;>rfl)|(simp [*,errW_none,errW_some]<;>rfl),by repeat (first|(with_reducible first|exact HB.out|apply below_alloc|apply pw_below_drewN|apply below_drew1|refine below_set ?_ GE260.out)|exact HB.out)⟩
         ·rw [if_neg c31] at H
          have c31b0:((l0_3.length:Int)==0)=false:=beq_eq_false_iff_ne.mpr c31
          have c31b1:((l0_3.length:Int) != 0)=true:=bne_iff_ne.mpr c31
          have c31b2:¬ (l0_3=[]):=fun h_=>c31 (by rw [h_];rfl)
          obtain rfl:=Option.some.inj H
          have hcz33_0:wc.cell? ⟨gb260,0,none⟩=some (.int .i64 a0_0):=(blk_cell BK260.out 0).trans rfl
          have hcz33_1:wc.cell? ⟨gb260,1,none⟩=some (.int .i64 a0_1):=(blk_cell BK260.out 1).trans rfl
          have hcz33_2:wc.cell? ⟨gb260,2,none⟩=some (.string a0_2):=(blk_cell BK260.out 2).trans rfl
          have hcz33_3:wc.cell? ⟨gb260,3,none⟩=some (.slice A0_3 l0_3.length c0_3):=(blk_cell BK260.out 3).trans rfl
          have hcz33_4:wc.cell? ⟨gb260,4,none⟩=some (.string a0_4):=(blk_cell BK260.out 4).trans rfl
          have hcz33_5:wc.cell? ⟨gb260,5,none⟩=some (.int .i64 a0_5):=(blk_cell BK260.out 5).trans rfl
          have hfz33_0:=blk_frozen BK260.out 0
          have hfz33_1:=blk_frozen BK260.out 1
          have hfz33_2:=blk_frozen BK260.out 2
          have hfz33_3:=blk_frozen BK260.out 3
          have hfz33_4:=blk_frozen BK260.out 4
          have hfz33_5:=blk_frozen BK260.out 5
          go_wp2
          go_ret
          exact ⟨by first|rfl|(simp [errW_none,errW_some]<;>rfl)|(simp [*,errW_none,errW_some]<;>rfl),by repeat (first|(with_reducible first|exact HB.out|apply below_alloc|apply pw_below_drewN|apply below_drew1|refine below_set ?_ GE260.out)|exact HB.out)⟩
        ·rw [if_neg c30] at H
         have c30b0:(a0_2.toList==([]:List UInt8))=false:=beq_eq_false_iff_ne.mpr c30
         have c30b1:(a0_2.toList != ([]:List UInt8))=true:=bne_iff_ne.mpr c30
         obtain rfl:=Option.some.inj H
         have hcz34_0:wc.cell? ⟨gb260,0,none⟩=some (.int .i64 a0_0):=(blk_cell BK260.out 0).trans rfl
         have hcz34_1:wc.cell? ⟨gb260,1,none⟩=some (.int .i64 a0_1):=(blk_cell BK260.out 1).trans rfl
         have hcz34_2:wc.cell? ⟨gb260,2,none⟩=some (.string a0_2):=(blk_cell BK260.out 2).trans rfl
         have hcz34_3:wc.cell? ⟨gb260,3,none⟩=some (.slice A0_3 l0_3.length c0_3):=(blk_cell BK260.out 3).trans rfl
         have hcz34_4:wc.cell? ⟨gb260,4,none⟩=some (.string a0_4):=(blk_cell BK260.out 4).trans rfl
         have hcz34_5:wc.cell? ⟨gb260,5,none⟩=some (.int .i64 a0_5):=(blk_cell BK260.out 5).trans rfl
         have hfz34_0:=blk_frozen BK260.out 0
         have hfz34_1:=blk_frozen BK260.out 1
         have hfz34_2:=blk_frozen BK260.out 2
         have hfz34_3:=blk_frozen BK260.out 3
         have hfz34_4:=blk_frozen BK260.out 4
         have hfz34_5:=blk_frozen BK260.out 5
         go_wp2
         go_ret
         exact ⟨by first|rfl|(simp [errW_none,errW_some]<;>rfl)|(simp [*,errW_none,errW_some]<;>rfl),by repeat (first|(with_reducible first|exact HB.out|apply below_alloc|apply pw_below_drewN|apply below_drew1|refine below_set ?_ GE260.out)|exact HB.out)⟩
      ·rw [if_neg c27] at H
       have c27b0:(a0_1==3)=false:=beq_eq_false_iff_ne.mpr c27
       have c27b1:(a0_1 != 3)=true:=bne_iff_ne.mpr c27
       by_cases c35:a0_1=4
       ·rw [if_pos c35] at H
        have c35b0:(a0_1==4)=true:=beq_iff_eq.mpr c35
        have c35b1:(a0_1 != 4)=false:=bne_eq_false_iff_eq.mpr c35
        clear c35
        by_cases c36:a0_2.toList=([]:List UInt8)
        ·rw [if_pos c36] at H
         have c36b0:(a0_2.toList==([]:List UInt8))=true:=beq_iff_eq.mpr c36
         have c36b1:(a0_2.toList != ([]:List UInt8))=false:=bne_eq_false_iff_eq.mpr c36
         clear c36
         by_cases c37:(l0_3.length:Int)=0
         ·rw [if_pos c37] at H
          have c37b0:((l0_3.length:Int)==0)=true:=beq_iff_eq.mpr c37
          have c37b1:((l0_3.length:Int) != 0)=false:=bne_eq_false_iff_eq.mpr c37
          clear c37
          obtain rfl:=Option.some.inj H
          have hcz38_0:wc.cell? ⟨gb260,0,none⟩=some (.int .i64 a0_0):=(blk_cell BK260.out 0).trans rfl
          have hcz38_1:wc.cell? ⟨gb260,1,none⟩=some (.int .i64 a0_1):=(blk_cell BK260.out 1).trans rfl
          have hcz38_2:wc.cell? ⟨gb260,2,none⟩=some (.string a0_2):=(blk_cell BK260.out 2).trans rfl
          have hcz38_3:wc.cell? ⟨gb260,3,none⟩=some (.slice A0_3 l0_3.length c0_3):=(blk_cell BK260.out 3).trans rfl
          have hcz38_4:wc.cell? ⟨gb260,4,none⟩=some (.string a0_4):=(blk_cell BK260.out 4).trans rfl
          have hcz38_5:wc.cell? ⟨gb260,5,none⟩=some (.int .i64 a0_5):=(blk_cell BK260.out 5).trans rfl
          have hfz38_0:=blk_frozen BK260.out 0
          have hfz38_1:=blk_frozen BK260.out 1
          have hfz38_2:=blk_frozen BK260.out 2
          have hfz38_3:=blk_frozen BK260.out 3
          have hfz38_4:=blk_frozen BK260.out 4
          have hfz38_5:=blk_frozen BK260.out 5
          go_wp2
          go_ret
          exact ⟨by first|rfl|(simp [errW_none,errW_some]<;>rfl)|(simp [*,errW_none,errW_some]<;>rfl),by repeat (first|(with_reducible first|exact HB.out|apply below_alloc|apply pw_below_drewN|apply below_drew1|refine below_set ?_ GE260.out)|exact HB.out)⟩
         ·rw [if_neg c37] at H
          have c37b0:((l0_3.length:Int)==0)=false:=beq_eq_false_iff_ne.mpr c37
          have c37b1:((l0_3.length:Int) != 0)=true:=bne_iff_ne.mpr c37
          have c37b2:¬ (l0_3=[]):=fun h_=>c37 (by rw [h_];rfl)
          obtain rfl:=Option.some.inj H
          have hcz39_0:wc.cell? ⟨gb260,0,none⟩=some (.int .i64 a0_0):=(blk_cell BK260.out 0).trans rfl
          have hcz39_1:wc.cell? ⟨gb260,1,none⟩=some (.int .i64 a0_1):=(blk_cell BK260.out 1).trans rfl
          have hcz39_2:wc.cell? ⟨gb260,2,none⟩=some (.string a0_2):=(blk_cell BK260.out 2).trans rfl
          have hcz39_3:wc.cell? ⟨gb260,3,none⟩=some (.slice A0_3 l0_3.length c0_3):=(blk_cell BK260.out 3).trans rfl
          have hcz39_4:wc.cell? ⟨gb260,4,none⟩=some (.string a0_4):=(blk_cell BK260.out 4).trans rfl
          have hcz39_5:wc.cell? ⟨gb260,5,none⟩=some (.int .i64 a0_5):=(blk_cell BK260.out 5).trans rfl
          have hfz39_0:=blk_frozen BK260.out 0
          have hfz39_1:=blk_frozen BK260.out 1
          have hfz39_2:=blk_frozen BK260.out 2
          have hfz39_3:=blk_frozen BK260.out 3
          have hfz39_4:=blk_frozen BK260.out 4
          have hfz39_5:=blk_frozen BK260.out 5
          go_wp2
          go_ret
          exact ⟨by first|rfl|(simp [errW_none,errW_some]<;>rfl)|(simp [*,errW_none,errW_some]<;>rfl),by repeat (first|(with_reducible first|exact HB.out|apply below_alloc|apply pw_below_drewN|apply below_drew1|refine below_set ?_ GE260.out)|exact HB.out)⟩
        ·rw [if_neg c36] at H
         have c36b0:(a0_2.toList==([]:List UInt8))=false:=beq_eq_false_iff_ne.mpr c36
         have c36b1:(a0_2.toList != ([]:List UInt8))=true:=bne_iff_ne.mpr c36
         obtain rfl:=Option.some.inj H
         have hcz40_0:wc.cell? ⟨gb260,0,none⟩=some (.int .i64 a0_0):=(blk_cell BK260.out 0).trans rfl
         have hcz40_1:wc.cell? ⟨gb260,1,none⟩=some (.int .i64 a0_1):=(blk_cell BK260.out 1).trans rfl
         have hcz40_2:wc.cell? ⟨gb260,2,none⟩=some (.string a0_2):=(blk_cell BK260.out 2).trans rfl
         have hcz40_3:wc.cell? ⟨gb260,3,none⟩=some (.slice A0_3 l0_3.length c0_3):=(blk_cell BK260.out 3).trans rfl
         have hcz40_4:wc.cell? ⟨gb260,4,none⟩=some (.string a0_4):=(blk_cell BK260.out 4).trans rfl
         have hcz40_5:wc.cell? ⟨gb260,5,none⟩=some (.int .i64 a0_5):=(blk_cell BK260.out 5).trans rfl
         have hfz40_0:=blk_frozen BK260.out 0
         have hfz40_1:=blk_frozen BK260.out 1
         have hfz40_2:=blk_frozen BK260.out 2
         have hfz40_3:=blk_frozen BK260.out 3
         have hfz40_4:=blk_frozen BK260.out 4
         have hfz40_5:=blk_frozen BK260.out 5
         go_wp2
         go_ret
         exact ⟨by first|rfl|(simp [errW_none,errW_some]<;>rfl)|(simp [*,errW_none,errW_some]<;>rfl),by repeat (first|(with_reducible first|exact HB.out|apply below_alloc|apply pw_below_drewN|apply below_drew1|refine below_set ?_ GE260.out)|exact HB.out)⟩
       ·rw [if_neg c35] at H
        have c35b0:(a0_1==4)=false:=beq_eq_false_iff_ne.mpr c35
        have c35b1:(a0_1 != 4)=true:=bne_iff_ne.mpr c35
        by_cases c41:a0_1=5
        ·rw [if_pos c41] at H
         have c41b0:(a0_1==5)=true:=beq_iff_eq.mpr c41
         have c41b1:(a0_1 != 5)=false:=bne_eq_false_iff_eq.mpr c41
         clear c41
         by_cases c42:a0_4.toList=([]:List UInt8)
         ·rw [if_pos c42] at H
          have c42b0:(a0_4.toList==([]:List UInt8))=true:=beq_iff_eq.mpr c42
          have c42b1:(a0_4.toList != ([]:List UInt8))=false:=bne_eq_false_iff_eq.mpr c42
          clear c42
          by_cases c43:(l0_3.length:Int)=0
          ·rw [if_pos c43] at H
           have c43b0:((l0_3.length:Int)==0)=true:=beq_iff_eq.mpr c43
           have c43b1:((l0_3.length:Int) != 0)=false:=bne_eq_false_iff_eq.mpr c43
           clear c43
           obtain rfl:=Option.some.inj H
           have hcz44_0:wc.cell? ⟨gb260,0,none⟩=some (.int .i64 a0_0):=(blk_cell BK260.out 0).trans rfl
           have hcz44_1:wc.cell? ⟨gb260,1,none⟩=some (.int .i64 a0_1):=(blk_cell BK260.out 1).trans rfl
           have hcz44_2:wc.cell? ⟨gb260,2,none⟩=some (.string a0_2):=(blk_cell BK260.out 2).trans rfl
           have hcz44_3:wc.cell? ⟨gb260,3,none⟩=some (.slice A0_3 l0_3.length c0_3):=(blk_cell BK260.out 3).trans rfl
           have hcz44_4:wc.cell? ⟨gb260,4,none⟩=some (.string a0_4):=(blk_cell BK260.out 4).trans rfl
           have hcz44_5:wc.cell? ⟨gb260,5,none⟩=some (.int .i64 a0_5):=(blk_cell BK260.out 5).trans rfl
           have hfz44_0:=blk_frozen BK260.out 0
           have hfz44_1:=blk_frozen BK260.out 1
           have hfz44_2:=blk_frozen BK260.out 2
           have hfz44_3:=blk_frozen BK260.out 3
           have hfz44_4:=blk_frozen BK260.out 4
           have hfz44_5:=blk_frozen BK260.out 5
           go_wp2
           go_ret
           exact ⟨by first|rfl|(simp [errW_none,errW_some]<;>rfl)|(simp [*,errW_none,errW_some]<;>rfl),by repeat (first|(with_reducible first|exact HB.out|apply below_alloc|apply pw_below_drewN|apply below_drew1|refine below_set ?_ GE260.out)|exact HB.out)⟩
          ·rw [if_neg c43] at H
           have c43b0:((l0_3.length:Int)==0)=false:=beq_eq_false_iff_ne.mpr c43
           have c43b1:((l0_3.length:Int) != 0)=true:=bne_iff_ne.mpr c43
           have c43b2:¬ (l0_3=[]):=fun h_=>c43 (by rw [h_];rfl)
           obtain rfl:=Option.some.inj H
           have hcz45_0:wc.cell? ⟨gb260,0,none⟩=some (.int .i64 a0_0):=(blk_cell BK260.out 0).trans rfl
           have hcz45_1:wc.cell? ⟨gb260,1,none⟩=some (.int .i64 a0_1):=(blk_cell BK260.out 1).trans rfl
           have hcz45_2:wc.cell? ⟨gb260,2,none⟩=some (.string a0_2):=(blk_cell BK260.out 2).trans rfl
           have hcz45_3:wc.cell? ⟨gb260,3,none⟩=some (.slice A0_3 l0_3.length c0_3):=(blk_cell BK260.out 3).trans rfl
           have hcz45_4:wc.cell? ⟨gb260,4,none⟩=some (.string a0_4):=(blk_cell BK260.out 4).trans rfl
           have hcz45_5:wc.cell? ⟨gb260,5,none⟩=some (.int .i64 a0_5):=(blk_cell BK260.out 5).trans rfl
           have hfz45_0:=blk_frozen BK260.out 0
           have hfz45_1:=blk_frozen BK260.out 1
           have hfz45_2:=blk_frozen BK260.out 2
           have hfz45_3:=blk_frozen BK260.out 3
           have hfz45_4:=blk_frozen BK260.out 4
           have hfz45_5:=blk_frozen BK260.out 5
           go_wp2
           go_ret
           exact ⟨by first|rfl|(simp [errW_none,errW_some]<;>rfl)|(simp [*,errW_none,errW_some]<;>rfl),by repeat (first|(with_reducible first|exact HB.out|apply below_alloc|apply pw_below_drewN|apply below_drew1|refine below_set ?_ GE260.out)|exact HB.out)⟩
         ·rw [if_neg c42] at H
          have c42b0:(a0_4.toList==([]:List UInt8))=false:=beq_eq_false_iff_ne.mpr c42
          have c42b1:(a0_4.toList != ([]:List UInt8))=true:=bne_iff_ne.mpr c42
          obtain rfl:=Option.some.inj H
          have hcz46_0:wc.cell? ⟨gb260,0,none⟩=some (.int .i64 a0_0):=(blk_cell BK260.out 0).trans rfl
          have hcz46_1:wc.cell? ⟨gb260,1,none⟩=some (.int .i64 a0_1):=(blk_cell BK260.out 1).trans rfl
          have hcz46_2:wc.cell? ⟨gb260,2,none⟩=some (.string a0_2):=(blk_cell BK260.out 2).trans rfl
          have hcz46_3:wc.cell? ⟨gb260,3,none⟩=some (.slice A0_3 l0_3.length c0_3):=(blk_cell BK260.out 3).trans rfl
          have hcz46_4:wc.cell? ⟨gb260,4,none⟩=some (.string a0_4):=(blk_cell BK260.out 4).trans rfl
          have hcz46_5:wc.cell? ⟨gb260,5,none⟩=some (.int .i64 a0_5):=(blk_cell BK260.out 5).trans rfl
          have hfz46_0:=blk_frozen BK260.out 0
          have hfz46_1:=blk_frozen BK260.out 1
          have hfz46_2:=blk_frozen BK260.out 2
          have hfz46_3:=blk_frozen BK260.out 3
          have hfz46_4:=blk_frozen BK260.out 4
          have hfz46_5:=blk_frozen BK260.out 5
          go_wp2
          go_ret
          exact ⟨by first|rfl|(simp [errW_none,errW_some]<;>rfl)|(simp [*,errW_none,errW_some]<;>rfl),by repeat (first|(with_reducible first|exact HB.out|apply below_alloc|apply pw_below_drewN|apply below_drew1|refine below_set ?_ GE260.out)|exact HB.out)⟩
        ·rw [if_neg c41] at H
         have c41b0:(a0_1==5)=false:=beq_eq_false_iff_ne.mpr c41
         have c41b1:(a0_1 != 5)=true:=bne_iff_ne.mpr c41
         obtain rfl:=Option.some.inj H
         have hcz47_0:wc.cell? ⟨gb260,0,none⟩=some (.int .i64 a0_0):=(blk_cell BK260.out 0).trans rfl
         have hcz47_1:wc.cell? ⟨gb260,1,none⟩=some (.int .i64 a0_1):=(blk_cell BK260.out 1).trans rfl
         have hcz47_2:wc.cell? ⟨gb260,2,none⟩=some (.string a0_2):=(blk_cell BK260.out 2).trans rfl
         have hcz47_3:wc.cell? ⟨gb260,3,none⟩=some (.slice A0_3 l0_3.length c0_3):=(blk_cell BK260.out 3).trans rfl
         have hcz47_4:wc.cell? ⟨gb260,4,none⟩=some (.string a0_4):=(blk_cell BK260.out 4).trans rfl
         have hcz47_5:wc.cell? ⟨gb260,5,none⟩=some (.int .i64 a0_5):=(blk_cell BK260.out 5).trans rfl
         have hfz47_0:=blk_frozen BK260.out 0
         have hfz47_1:=blk_frozen BK260.out 1
         have hfz47_2:=blk_frozen BK260.out 2
         have hfz47_3:=blk_frozen BK260.out 3
         have hfz47_4:=blk_frozen BK260.out 4
         have hfz47_5:=blk_frozen BK260.out 5
         go_wp2
         go_ret
         exact ⟨by first|rfl|(simp [errW_none,errW_some]<;>rfl)|(simp [*,errW_none,errW_some]<;>rfl),by repeat (first|(with_reducible first|exact HB.out|apply below_alloc|apply pw_below_drewN|apply below_drew1|refine below_set ?_ GE260.out)|exact HB.out)⟩
end Go.Proofs.YtjojmfhgfeflnaaGreatDoor.QFnExactInner
