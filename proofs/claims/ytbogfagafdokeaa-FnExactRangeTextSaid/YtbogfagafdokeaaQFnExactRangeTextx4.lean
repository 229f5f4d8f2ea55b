import Derived.Test.YtbogfagafdokeaaQFnExactRangeTextx0
import Derived.Test.YtbogfagafdokeaaQFnExactRangeTextx3
namespace Go.Proofs.Ytbogfagafdokeaa.QFnExactRangeText
open Go.RowKit Go.Proofs.YtbogfagafdokeaaV.PrintWords Go.Proofs.YtbogfagafdokeaaV.PrintLast Go.Proofs.YtbogfagafdokeaaV.PrintMore
attribute [local go_sem] max2_int min2_int max_two min_two max_three min_three max_four min_four
set_option linter.unusedVariables false
set_option linter.unusedSimpArgs false
private theorem blkf6 {w:World} {g:Nat} {t:TypeId} {c0 c1 c2 c3 c4 c5:Value} (h:w.heap[g]?=some (.cells #[c0,c1,c2,c3,c4,c5] t (0,0))):w.cell? ⟨g,0,none⟩=some c0∧w.cell? ⟨g,1,none⟩=some c1∧w.cell? ⟨g,2,none⟩=some c2∧w.cell? ⟨g,3,none⟩=some c3∧w.cell? ⟨g,4,none⟩=some c4∧w.cell? ⟨g,5,none⟩=some c5∧w.frozen? ⟨g,0,none⟩=false∧w.frozen? ⟨g,1,none⟩=false∧w.frozen? ⟨g,2,none⟩=false∧w.frozen? ⟨g,3,none⟩=false∧w.frozen? ⟨g,4,none⟩=false∧w.frozen? ⟨g,5,none⟩=false:=⟨(blk_cell h 0).trans rfl,(blk_cell h 1).trans rfl,(blk_cell h 2).trans rfl,(blk_cell h 3).trans rfl,(blk_cell h 4).trans rfl,(blk_cell h 5).trans rfl,blk_frozen h 0,blk_frozen h 1,blk_frozen h 2,blk_frozen h 3,blk_frozen h 4,blk_frozen h 5⟩
/-! ### spec_l3NodeOk: function 40 -/
mutual
def spec_l3NodeOk.j0:Nat→Bool→Int→Int→ByteArray→List (S99)→ByteArray→Int→Option (Bool)
  |0,_,_,_,_,_,_,_=>none
  |k+1,x20,x164000,x164001,x164002,x164003,x164004,x164005=>if x20=true then (some false) else (if x164001=1 then (if x164002.toList=([]:List UInt8) then (if x164004.toList=([]:List UInt8) then (some ((x164003.length:Int)==0)) else (some false)) else (some false)) else (if x164001=2 then (spec_l3NodeOk.l0 k 0 x164000 x164001 x164002 x164003 x164004 x164005) else (if x164001=3 then (if x164002.toList=([]:List UInt8) then (if x164004.toList=([]:List UInt8) then (some false) else (if (x164003.length:Int)=0 then (some (x164005==0)) else (some false))) else (some false)) else (if x164001=4 then (if x164002.toList=([]:List UInt8) then (if (x164003.length:Int)=0 then (some (x164005==0)) else (some false)) else (some false)) else (if x164001=5 then (if x164004.toList=([]:List UInt8) then (if (x164003.length:Int)=0 then (some (x164005==0)) else (some false)) else (some false)) else (some false))))))
def spec_l3NodeOk.l0:Nat→Int→Int→Int→ByteArray→List (S99)→ByteArray→Int→Option (Bool)
  |0,_,_,_,_,_,_,_=>none
  |k+1,x5,x164000,x164001,x164002,x164003,x164004,x164005=>if x5<(x164003.length:Int) then (if 0≤x5 then (if ((rd_T99 x164003 x5).f0).toList=([]:List UInt8) then (some false) else (if x5≤(x164003.length:Int) then ((spec_l2Has.f k (x164003.take (x5:Int).toNat) ((rd_T99 x164003 x5).f0)).bind fun t170=>(if t170=true then (some false) else (spec_l3NodeOk.l0 k (wrap64 (x5+1)) x164000 x164001 x164002 x164003 x164004 x164005))) else (none))) else (none)) else (if x164002.toList=([]:List UInt8) then (some false) else (some (x164004.toList==([]:List UInt8))))
end
def spec_l3NodeOk.f (k:Nat) (a0_0:Int) (a0_1:Int) (a0_2:ByteArray) (l0_3:List (S99)) (a0_4:ByteArray) (a0_5:Int) (a1:Bool):Option (Bool):=if a0_0<0 then (spec_l3NodeOk.j0 k true a0_0 a0_1 a0_2 l0_3 a0_4 a0_5) else (if a0_0 > 1000000 then (spec_l3NodeOk.j0 k true a0_0 a0_1 a0_2 l0_3 a0_4 a0_5) else (spec_l3NodeOk.j0 k ((a0_1==1) != a1) a0_0 a0_1 a0_2 l0_3 a0_4 a0_5))
theorem spec_l3NodeOk.mono_l:∀ k,(∀ y0 y1 y2 y3 y4 y5 y6,LeO (spec_l3NodeOk.j0 k y0 y1 y2 y3 y4 y5 y6) (spec_l3NodeOk.j0 (k+1) y0 y1 y2 y3 y4 y5 y6))∧(∀ y0 y1 y2 y3 y4 y5 y6,LeO (spec_l3NodeOk.l0 k y0 y1 y2 y3 y4 y5 y6) (spec_l3NodeOk.l0 (k+1) y0 y1 y2 y3 y4 y5 y6))
 |0=>⟨fun _ _ _ _ _ _ _ r h=>by simp [spec_l3NodeOk.j0] at h,fun _ _ _ _ _ _ _ r h=>by simp [spec_l3NodeOk.l0] at h⟩
 |k+1=>by
  obtain ⟨ih0,ih1⟩:=spec_l3NodeOk.mono_l k
  refine ⟨?_,?_⟩
  ·intro y0 y1 y2 y3 y4 y5 y6
   unfold spec_l3NodeOk.j0
   repeat' first
  |(with_reducible exact ih0 _ _ _ _ _ _ _)
  |(with_reducible exact ih1 _ _ _ _ _ _ _)
  |(with_reducible exact spec_l2Has.mono _ _ _)
  |(with_reducible exact LeO.refl _)
  |(with_reducible exact LeO.none _)
  |(with_reducible refine LeO.ite ?_ ?_)
  |(with_reducible refine LeO.bind ?_ (fun _=>?_))
  |exact ih0 _ _ _ _ _ _ _
  |exact ih1 _ _ _ _ _ _ _
  |exact spec_l2Has.mono _ _ _
  |exact LeO.none _
  |refine LeO.ite ?_ ?_
  |refine LeO.bind ?_ (fun _=>?_)
  ·intro y0 y1 y2 y3 y4 y5 y6
   unfold spec_l3NodeOk.l0
   repeat' first
  |(with_reducible exact ih0 _ _ _ _ _ _ _)
  |(with_reducible exact ih1 _ _ _ _ _ _ _)
  |(with_reducible exact spec_l2Has.mono _ _ _)
  |(with_reducible exact LeO.refl _)
  |(with_reducible exact LeO.none _)
  |(with_reducible refine LeO.ite ?_ ?_)
  |(with_reducible refine LeO.bind ?_ (fun _=>?_))
  |exact ih0 _ _ _ _ _ _ _
  |exact ih1 _ _ _ _ _ _ _
  |exact spec_l2Has.mono _ _ _
  |exact LeO.none _
  |refine LeO.ite ?_ ?_
  |refine LeO.bind ?_ (fun _=>?_)
theorem spec_l3NodeOk.mono:∀ a0 a1 a2 a3 a4 a5 a6 k,LeO (spec_l3NodeOk.f k a0 a1 a2 a3 a4 a5 a6) (spec_l3NodeOk.f (k+1) a0 a1 a2 a3 a4 a5 a6):=by
 intro a0 a1 a2 a3 a4 a5 a6 k
 obtain ⟨ih0,ih1⟩:=spec_l3NodeOk.mono_l k
 unfold spec_l3NodeOk.f
 repeat' first
  |(with_reducible exact ih0 _ _ _ _ _ _ _)
  |(with_reducible exact ih1 _ _ _ _ _ _ _)
  |(with_reducible exact spec_l2Has.mono _ _ _)
  |(with_reducible exact LeO.refl _)
  |(with_reducible exact LeO.none _)
  |(with_reducible refine LeO.ite ?_ ?_)
  |(with_reducible refine LeO.bind ?_ (fun _=>?_))
  |exact ih0 _ _ _ _ _ _ _
  |exact ih1 _ _ _ _ _ _ _
  |exact spec_l2Has.mono _ _ _
  |exact LeO.none _
  |refine LeO.ite ?_ ?_
  |refine LeO.bind ?_ (fun _=>?_)
set_option maxHeartbeats 8000000 in
set_option maxRecDepth 100000 in
theorem spec_l3NodeOk.calls (k:Nat) (a0_0:Int) (a0_1:Int) (a0_2:ByteArray) (A0_3:Option Addr) (c0_3:Nat) (l0_3:List (S99)) (a0_4:ByteArray) (a0_5:Int) (a1:Bool) (r:Bool) (w:World) (hr0_3:Kd.C k99 w A0_3 l0_3.length l0_3) (hc0_3:l0_3.length≤c0_3) (h:spec_l3NodeOk.f k a0_0 a0_1 a0_2 l0_3 a0_4 a0_5 a1=some r) :
  Calls Try.prog 40 #[.agg #[.int .i64 a0_0,.int .i64 a0_1,.string a0_2,.slice A0_3 l0_3.length c0_3,.string a0_4,.int .i64 a0_5],.bool a1] w fun e w'=>e=.returned (.bool r)∧Below w.heap.size w w':=by
 have hu59:=Try.underlying59
 have HR0_3:=Aside0.mk hr0_3
 have HC0_3:=Aside0.mk hc0_3
 clear hr0_3 hc0_3
 have HB:=Aside0.mk (Below.refl w.heap.size w)
 have H:(if a0_0<0 then (spec_l3NodeOk.j0 k true a0_0 a0_1 a0_2 l0_3 a0_4 a0_5) else (if a0_0 > 1000000 then (spec_l3NodeOk.j0 k true a0_0 a0_1 a0_2 l0_3 a0_4 a0_5) else (spec_l3NodeOk.j0 k ((a0_1==1) != a1) a0_0 a0_1 a0_2 l0_3 a0_4 a0_5)))=some r:=h
 clear h
 have HC3:=Aside0.mk H
 clear H
 go_enter Try.func40,Try.ntmps40
 go_upto_region 1 with (first|((with_reducible refine gate_dst (N:=2) rfl ?_);(try (refine gate_guard (by rfl) ?_;dsimp only));refine box_event rfl (N:=2) rfl (cs:=#[.int .i64 a0_0,.int .i64 a0_1,.string a0_2,.slice A0_3 l0_3.length c0_3,.string a0_4,.int .i64 a0_5]) (t:=59) ?hr ?_;(case hr=>first|(go_simp;done)|(go_simp;rfl));intro gb163 hg w4 hbox hb;have n0_:=Aside0.mk (below_step (by repeat (first|exact HB.out|apply below_alloc|apply pw_below_drewN|apply below_drew1)) hb);have n1_:=Aside0.mk (hbox);have n2_:=Aside0.mk ((by rw [hg];exact (below_size (by repeat (first|exact HB.out|apply below_alloc|apply pw_below_drewN|apply below_drew1))):w.heap.size≤gb163));have n3_:=Aside0.mk ((by rw [hg];exact (below_size (by repeat (first|exact HB.out|apply below_alloc|apply pw_below_drewN|apply below_drew1))):w.heap.size≤gb163));clear HB;have HB:=n0_;have BK163:=n1_;have GW163:=n2_;have GE163:=n3_;clear n0_ n1_ n2_ n3_;clear hb hbox hg))
 repeat (go_quiet (first|((with_reducible refine gate_dst (N:=2) rfl ?_);(try (refine gate_guard (by rfl) ?_;dsimp only));refine box_event rfl (N:=2) rfl (cs:=#[.int .i64 a0_0,.int .i64 a0_1,.string a0_2,.slice A0_3 l0_3.length c0_3,.string a0_4,.int .i64 a0_5]) (t:=59) ?hr ?_;(case hr=>first|(go_simp;done)|(go_simp;rfl));intro gb163 hg w4 hbox hb;have n0_:=Aside0.mk (below_step (by repeat (first|exact HB.out|apply below_alloc|apply pw_below_drewN|apply below_drew1)) hb);have n1_:=Aside0.mk (hbox);have n2_:=Aside0.mk ((by rw [hg];exact (below_size (by repeat (first|exact HB.out|apply below_alloc|apply pw_below_drewN|apply below_drew1))):w.heap.size≤gb163));have n3_:=Aside0.mk ((by rw [hg];exact (below_size (by repeat (first|exact HB.out|apply below_alloc|apply pw_below_drewN|apply below_drew1))):w.heap.size≤gb163));clear HB;have HB:=n0_;have BK163:=n1_;have GW163:=n2_;have GE163:=n3_;clear n0_ n1_ n2_ n3_;clear hb hbox hg));go_upto_region 1 with (first|((with_reducible refine gate_dst (N:=2) rfl ?_);(try (refine gate_guard (by rfl) ?_;dsimp only));refine box_event rfl (N:=2) rfl (cs:=#[.int .i64 a0_0,.int .i64 a0_1,.string a0_2,.slice A0_3 l0_3.length c0_3,.string a0_4,.int .i64 a0_5]) (t:=59) ?hr ?_;(case hr=>first|(go_simp;done)|(go_simp;rfl));intro gb163 hg w4 hbox hb;have n0_:=Aside0.mk (below_step (by repeat (first|exact HB.out|apply below_alloc|apply pw_below_drewN|apply below_drew1)) hb);have n1_:=Aside0.mk (hbox);have n2_:=Aside0.mk ((by rw [hg];exact (below_size (by repeat (first|exact HB.out|apply below_alloc|apply pw_below_drewN|apply below_drew1))):w.heap.size≤gb163));have n3_:=Aside0.mk ((by rw [hg];exact (below_size (by repeat (first|exact HB.out|apply below_alloc|apply pw_below_drewN|apply below_drew1))):w.heap.size≤gb163));clear HB;have HB:=n0_;have BK163:=n1_;have GW163:=n2_;have GE163:=n3_;clear n0_ n1_ n2_ n3_;clear hb hbox hg)))
 (try simp only [Act.put,List.setIfInBounds_toArray,List.set_cons_zero,List.set_cons_succ])
 go_cut [20] (fun v20 wc=>∃ (kq:Nat) (x20_2:Bool),v20=.bool x20_2∧Aside0 (spec_l3NodeOk.j0 kq x20_2 a0_0 a0_1 a0_2 l0_3 a0_4 a0_5=some r)∧Aside0 (kq≤k)∧Aside0 (wc.heap[gb163]?=some (.cells #[.int .i64 a0_0,.int .i64 a0_1,.string a0_2,(.slice A0_3 l0_3.length c0_3),.string a0_4,.int .i64 a0_5] 59 (0,0)))∧Aside0 (Below w.heap.size w wc))
 case first=>
  have H:=HC3.out
  clear HC3
  by_cases c5:a0_0<0
  ·rw [if_pos c5] at H
   have c5b0:decide (a0_0<0)=true:=decide_eq_true c5
   clear c5
   (first|rw [c5b0]|(simp only [i64_w,i32_w];rw [c5b0])|rw [c5b1]|skip)
   have H':=Aside0.mk H
   clear H
   obtain ⟨hcz6_0,hcz6_1,hcz6_2,hcz6_3,hcz6_4,hcz6_5,hfz6_0,hfz6_1,hfz6_2,hfz6_3,hfz6_4,hfz6_5⟩:=blkf6 BK163.out
   go_wp2
   repeat (go_quiet (fail);try go_wp2)
   go_meet
   case rel=>exact ⟨_,(true),(by first|rfl|(simp;done)|(simp [*];done)),H',⟨by first|omega|exact Nat.le_refl _⟩,⟨by (with_reducible repeat (first|refine blk_drewN ?_ _|refine blk_drew ?_|refine blk_alloc ?_ _));exact BK163.out⟩,⟨by repeat (first|exact HB.out|apply below_alloc|apply pw_below_drewN|apply below_drew1|refine below_set ?_ GE163.out)⟩⟩
  ·rw [if_neg c5] at H
   have c5b0:decide (a0_0<0)=false:=decide_eq_false c5
   clear c5
   (first|rw [c5b0]|(simp only [i64_w,i32_w];rw [c5b0])|rw [c5b1]|skip)
   by_cases c7:a0_0 > 1000000
   ·rw [if_pos c7] at H
    have c7b0:decide (1000000<a0_0)=true:=decide_eq_true c7
    clear c7
    have H':=Aside0.mk H
    clear H
    obtain ⟨hcz8_0,hcz8_1,hcz8_2,hcz8_3,hcz8_4,hcz8_5,hfz8_0,hfz8_1,hfz8_2,hfz8_3,hfz8_4,hfz8_5⟩:=blkf6 BK163.out
    go_wp2
    repeat (go_quiet (fail);try go_wp2)
    go_meet
    case rel=>exact ⟨_,(true),(by first|rfl|(simp;done)|(simp [*];done)),H',⟨by first|omega|exact Nat.le_refl _⟩,⟨by (with_reducible repeat (first|refine blk_drewN ?_ _|refine blk_drew ?_|refine blk_alloc ?_ _));exact BK163.out⟩,⟨by repeat (first|exact HB.out|apply below_alloc|apply pw_below_drewN|apply below_drew1|refine below_set ?_ GE163.out)⟩⟩
   ·rw [if_neg c7] at H
    have c7b0:decide (1000000<a0_0)=false:=decide_eq_false c7
    clear c7
    have H':=Aside0.mk H
    clear H
    obtain ⟨hcz9_0,hcz9_1,hcz9_2,hcz9_3,hcz9_4,hcz9_5,hfz9_0,hfz9_1,hfz9_2,hfz9_3,hfz9_4,hfz9_5⟩:=blkf6 BK163.out
    go_wp2
    repeat (go_quiet (fail);try go_wp2)
    go_meet
    case rel=>exact ⟨_,(((a0_1==1) != a1)),(by first|rfl|(simp;done)|(simp [*];done)),H',⟨by first|omega|exact Nat.le_refl _⟩,⟨by (with_reducible repeat (first|refine blk_drewN ?_ _|refine blk_drew ?_|refine blk_alloc ?_ _));exact BK163.out⟩,⟨by repeat (first|exact HB.out|apply below_alloc|apply pw_below_drewN|apply below_drew1|refine below_set ?_ GE163.out)⟩⟩
 case rest=>
  clear HC3
  try clear c5;try clear c5b0;try clear c7;try clear c7b0;try clear hcz6_0;try clear hcz6_1;try clear hcz6_2;try clear hcz6_3;try clear hcz6_4;try clear hcz6_5;try clear hcz8_0;try clear hcz8_1;try clear hcz8_2;try clear hcz8_3;try clear hcz8_4;try clear hcz8_5;try clear hcz9_0;try clear hcz9_1;try clear hcz9_2;try clear hcz9_3;try clear hcz9_4;try clear hcz9_5;try clear hfz6_0;try clear hfz6_1;try clear hfz6_2;try clear hfz6_3;try clear hfz6_4;try clear hfz6_5;try clear hfz8_0;try clear hfz8_1;try clear hfz8_2;try clear hfz8_3;try clear hfz8_4;try clear hfz8_5;try clear hfz9_0;try clear hfz9_1;try clear hfz9_2;try clear hfz9_3;try clear hfz9_4;try clear hfz9_5
  obtain ⟨kq,x20_2,rfl,HA,HJ2,BK163,HB⟩:=hcut
  cases kq with
 |zero=>exact absurd HA.out (by simp [spec_l3NodeOk.j0])
 |succ kj2=>
   have H:=HA.out
   clear HA
   simp only [spec_l3NodeOk.j0] at H
   by_cases c10:x20_2=true
   ·subst c10
    have H1:=H
    rw [if_pos rfl] at H1
    clear H
    have H:=H1
    clear H1
    obtain rfl:=Option.some.inj H
    go_wp2
    repeat (go_quiet (fail);try go_wp2)
    go_ret
    exact ⟨by first|rfl|(simp [errW_none,errW_some]<;>rfl)|(simp [*,errW_none,errW_some]<;>rfl),by repeat (first|exact HB.out|apply below_alloc|apply pw_below_drewN|apply below_drew1|refine below_set ?_ GE163.out)⟩
   ·replace c10:=Bool.eq_false_iff.mpr c10
    subst c10
    have H1:=H
    rw [if_neg (show ¬ (false=true) by decide)] at H1
    clear H
    have H:=H1
    clear H1
    by_cases c11:a0_1=1
    ·rw [if_pos c11] at H
     have c11b0:(a0_1==1)=true:=beq_iff_eq.mpr c11
     have c11b1:(a0_1 != 1)=false:=bne_eq_false_iff_eq.mpr c11
     clear c11
     by_cases c12:a0_2.toList=([]:List UInt8)
     ·rw [if_pos c12] at H
      have c12b0:(a0_2.toList==([]:List UInt8))=true:=beq_iff_eq.mpr c12
      have c12b1:(a0_2.toList != ([]:List UInt8))=false:=bne_eq_false_iff_eq.mpr c12
      clear c12
      by_cases c13:a0_4.toList=([]:List UInt8)
      ·rw [if_pos c13] at H
       have c13b0:(a0_4.toList==([]:List UInt8))=true:=beq_iff_eq.mpr c13
       have c13b1:(a0_4.toList != ([]:List UInt8))=false:=bne_eq_false_iff_eq.mpr c13
       clear c13
       obtain rfl:=Option.some.inj H
       obtain ⟨hcz14_0,hcz14_1,hcz14_2,hcz14_3,hcz14_4,hcz14_5,hfz14_0,hfz14_1,hfz14_2,hfz14_3,hfz14_4,hfz14_5⟩:=blkf6 BK163.out
       go_wp2
       repeat (go_quiet (fail);try go_wp2)
       go_ret
       exact ⟨by first|rfl|(simp [errW_none,errW_some]<;>rfl)|(simp [*,errW_none,errW_some]<;>rfl),by repeat (first|exact HB.out|apply below_alloc|apply pw_below_drewN|apply below_drew1|refine below_set ?_ GE163.out)⟩
      ·rw [if_neg c13] at H
       have c13b0:(a0_4.toList==([]:List UInt8))=false:=beq_eq_false_iff_ne.mpr c13
       have c13b1:(a0_4.toList != ([]:List UInt8))=true:=bne_iff_ne.mpr c13
       obtain rfl:=Option.some.inj H
       obtain ⟨hcz15_0,hcz15_1,hcz15_2,hcz15_3,hcz15_4,hcz15_5,hfz15_0,hfz15_1,hfz15_2,hfz15_3,hfz15_4,hfz15_5⟩:=blkf6 BK163.out
       go_wp2
       repeat (go_quiet (fail);try go_wp2)
       go_ret
       exact ⟨by first|rfl|(simp [errW_none,errW_some]<;>rfl)|(simp [*,errW_none,errW_some]<;>rfl),by repeat (first|exact HB.out|apply below_alloc|apply pw_below_drewN|apply below_drew1|refine below_set ?_ GE163.out)⟩
     ·rw [if_neg c12] at H
      have c12b0:(a0_2.toList==([]:List UInt8))=false:=beq_eq_false_iff_ne.mpr c12
      have c12b1:(a0_2.toList != ([]:List UInt8))=true:=bne_iff_ne.mpr c12
      obtain rfl:=Option.some.inj H
      obtain ⟨hcz16_0,hcz16_1,hcz16_2,hcz16_3,hcz16_4,hcz16_5,hfz16_0,hfz16_1,hfz16_2,hfz16_3,hfz16_4,hfz16_5⟩:=blkf6 BK163.out
      go_wp2
      repeat (go_quiet (fail);try go_wp2)
      go_ret
      exact ⟨by first|rfl|(simp [errW_none,errW_some]<;>rfl)|(simp [*,errW_none,errW_some]<;>rfl),by repeat (first|exact HB.out|apply below_alloc|apply pw_below_drewN|apply below_drew1|refine below_set ?_ GE163.out)⟩
    ·rw [if_neg c11] at H
     have c11b0:(a0_1==1)=false:=beq_eq_false_iff_ne.mpr c11
     have c11b1:(a0_1 != 1)=true:=bne_iff_ne.mpr c11
     by_cases c17:a0_1=2
     ·rw [if_pos c17] at H
      have c17b0:(a0_1==2)=true:=beq_iff_eq.mpr c17
      have c17b1:(a0_1 != 2)=false:=bne_eq_false_iff_eq.mpr c17
      clear c17
      have H':=Aside0.mk H
      clear H
      obtain ⟨hcz18_0,hcz18_1,hcz18_2,hcz18_3,hcz18_4,hcz18_5,hfz18_0,hfz18_1,hfz18_2,hfz18_3,hfz18_4,hfz18_5⟩:=blkf6 BK163.out
      go_wp2
      repeat (go_quiet (fail);try go_wp2)
      go_loopg [5] kj2 (fun kq v5 w'=>∃ (x5_2:Int),v5=.int .i64 x5_2∧Aside0 (spec_l3NodeOk.l0 kq x5_2 a0_0 a0_1 a0_2 l0_3 a0_4 a0_5=some r)∧Aside0 (kq≤kj2)∧Aside0 (w'.heap[gb163]?=some (.cells #[.int .i64 a0_0,.int .i64 a0_1,.string a0_2,(.slice A0_3 l0_3.length c0_3),.string a0_4,.int .i64 a0_5] 59 (0,0)))∧Aside0 (Below w.heap.size w w'))
      case atStart=>exact ⟨(0),(by first|rfl|(simp;done)|(simp [*];done)),H',⟨Nat.le_refl _⟩,⟨by (with_reducible repeat (first|refine blk_drewN ?_ _|refine blk_drew ?_|refine blk_alloc ?_ _));exact BK163.out⟩,⟨by repeat (first|exact HB.out|apply below_alloc|apply pw_below_drewN|apply below_drew1|refine below_set ?_ GE163.out)⟩⟩
      case round=>
       clear H'
       try clear c10;try clear c11;try clear c11b0;try clear c11b1;try clear c12;try clear c12b0;try clear c12b1;try clear c13;try clear c13b0;try clear c13b1;try clear c17;try clear c17b0;try clear c17b1;try clear hcz14_0;try clear hcz14_1;try clear hcz14_2;try clear hcz14_3;try clear hcz14_4;try clear hcz14_5;try clear hcz15_0;try clear hcz15_1;try clear hcz15_2;try clear hcz15_3;try clear hcz15_4;try clear hcz15_5;try clear hcz16_0;try clear hcz16_1;try clear hcz16_2;try clear hcz16_3;try clear hcz16_4;try clear hcz16_5;try clear hcz18_0;try clear hcz18_1;try clear hcz18_2;try clear hcz18_3;try clear hcz18_4;try clear hcz18_5;try clear hfz14_0;try clear hfz14_1;try clear hfz14_2;try clear hfz14_3;try clear hfz14_4;try clear hfz14_5;try clear hfz15_0;try clear hfz15_1;try clear hfz15_2;try clear hfz15_3;try clear hfz15_4;try clear hfz15_5;try clear hfz16_0;try clear hfz16_1;try clear hfz16_2;try clear hfz16_3;try clear hfz16_4;try clear hfz16_5;try clear hfz18_0;try clear hfz18_1;try clear hfz18_2;try clear hfz18_3;try clear hfz18_4;try clear hfz18_5
       obtain ⟨x5_2,rfl,HA,HK2,BK163,HB⟩:=hrel
       cases gk with
      |zero=>exact absurd HA.out (by simp [spec_l3NodeOk.l0])
      |succ k2=>
        have H:=HA.out
        clear HA
        simp only [spec_l3NodeOk.l0] at H
        by_cases c19:x5_2<(l0_3.length:Int)
        ·rw [if_pos c19] at H
         have c19b0:decide (x5_2<(l0_3.length:Int))=true:=decide_eq_true c19
         clear c19
         by_cases c20:0≤x5_2
         ·rw [if_pos c20] at H
          have c20b0:decide (0≤x5_2)=true:=decide_eq_true c20
          clear c20
          by_cases c21:((rd_T99 l0_3 x5_2).f0).toList=([]:List UInt8)
          ·rw [if_pos c21] at H
           have c21b0:(((rd_T99 l0_3 x5_2).f0).toList==([]:List UInt8))=true:=beq_iff_eq.mpr c21
           have c21b1:(((rd_T99 l0_3 x5_2).f0).toList != ([]:List UInt8))=false:=bne_eq_false_iff_eq.mpr c21
           clear c21
           obtain rfl:=Option.some.inj H
           obtain ⟨hcz22_0,hcz22_1,hcz22_2,hcz22_3,hcz22_4,hcz22_5,hfz22_0,hfz22_1,hfz22_2,hfz22_3,hfz22_4,hfz22_5⟩:=blkf6 BK163.out
           have p164:0≤(x5_2:Int):=of_decide_eq_true (by first|(with_reducible assumption)|assumption)
           have q164:x5_2<(l0_3.length:Int):=of_decide_eq_true (by first|(with_reducible assumption)|assumption)
           obtain ⟨ad164,e164,hx164_0,hx164_1⟩:=at_T99 HR0_3.out x5_2 p164 q164
           cases e164
           replace hx164_0:=pw_cell_below HB.out hx164_0
           replace hx164_1:=pw_cell_below HB.out hx164_1
           replace p164:=eq_true p164
           replace q164:=eq_true q164
           go_wp2
           repeat (go_quiet (fail);try go_wp2)
           go_ret
           exact ⟨by first|rfl|(simp [errW_none,errW_some]<;>rfl)|(simp [*,errW_none,errW_some]<;>rfl),by repeat (first|exact HB.out|apply below_alloc|apply pw_below_drewN|apply below_drew1|refine below_set ?_ GE163.out)⟩
          ·rw [if_neg c21] at H
           have c21b0:(((rd_T99 l0_3 x5_2).f0).toList==([]:List UInt8))=false:=beq_eq_false_iff_ne.mpr c21
           have c21b1:(((rd_T99 l0_3 x5_2).f0).toList != ([]:List UInt8))=true:=bne_iff_ne.mpr c21
           have c23b0:=eq_true (of_decide_eq_true (by first|(with_reducible assumption)|assumption):0≤x5_2)
           by_cases c24:x5_2≤(l0_3.length:Int)
           ·rw [if_pos c24] at H
            have c24b0:=eq_true c24
            have c24b1:decide (x5_2≤(l0_3.length:Int))=true:=decide_eq_true c24
            clear c24
            obtain ⟨y165,hy165⟩:∃ y_:List (S99),y_=(l0_3.take (x5_2:Int).toNat):=⟨_,rfl⟩
            replace H:((spec_l2Has.f k2 y165 ((rd_T99 l0_3 x5_2).f0)).bind fun t170=>(if t170=true then (some false) else (spec_l3NodeOk.l0 k2 (wrap64 (x5_2+1)) a0_0 a0_1 a0_2 l0_3 a0_4 a0_5)))=some r:=by first|(rw [hy165];with_reducible exact H)|(have H2_:=(Option.bind_some _ _).symm.trans H;rw [hy165];with_reducible exact H2_)|(have H2_:=(Option.bind_some _ _).symm.trans H;with_reducible exact H2_)|with_reducible exact H|(rw [hy165];exact H)|exact H
            have Ny165:=Aside0.mk hy165
            clear hy165
            replace H:=Option.bind_eq_some_iff.mp H
            obtain ⟨t170,A250,H⟩:=H
            try dsimp only at H
            have A25:=Aside0.mk A250
            clear A250
            by_cases c26:t170=true
            ·subst c26
             have H1:=H
             rw [if_pos rfl] at H1
             clear H
             have H:=H1
             clear H1
             obtain rfl:=Option.some.inj H
             obtain ⟨hcz27_0,hcz27_1,hcz27_2,hcz27_3,hcz27_4,hcz27_5,hfz27_0,hfz27_1,hfz27_2,hfz27_3,hfz27_4,hfz27_5⟩:=blkf6 BK163.out
             have p164:0≤(x5_2:Int):=of_decide_eq_true (by first|(with_reducible assumption)|assumption)
             have q164:x5_2<(l0_3.length:Int):=of_decide_eq_true (by first|(with_reducible assumption)|assumption)
             obtain ⟨ad164,e164,hx164_0,hx164_1⟩:=at_T99 HR0_3.out x5_2 p164 q164
             cases e164
             replace hx164_0:=pw_cell_below HB.out hx164_0
             replace hx164_1:=pw_cell_below HB.out hx164_1
             replace p164:=eq_true p164
             replace q164:=eq_true q164
             have q28:(x5_2:Int)≤((l0_3.length:Int):Int):=of_decide_eq_true (by first|(with_reducible assumption)|assumption)
             obtain ⟨i028,hi028,_,hsz28,_⟩:=info_parts info99
             have hroom28:l0_3.length≤c0_3:=HC0_3.out
             have hC28:Kd.C k99 _ (some ad164) l0_3.length l0_3:=HR0_3.out
             have hcut28:=cut_to (P:=Try.prog) 57 99 .i64 Try.underlying57 hi028 (some ad164) l0_3.length c0_3 x5_2 (of_decide_eq_true (by first|(with_reducible assumption)|assumption)) q28 hroom28
             have hr28:=Kd.C_take (m:=(x5_2:Int).toNat) hC28 (by omega)
             have hy28:y165.length=(x5_2:Int).toNat:=(by rw [Ny165.out,List.length_take];omega)
             rw [← Ny165.out] at hr28
             rw [← hy28] at hcut28
             have HR168:=Aside0.mk hr28
             have HC168:=Aside0.mk (show y165.length≤c0_3 from by omega)
             clear hr28 hC28 hroom28 hi028 hsz28
             have KY28:=Aside0.mk hy28
             clear hy28
             replace q28:=eq_true q28
             have p169:0≤(x5_2:Int):=of_decide_eq_true (by first|(with_reducible assumption)|assumption)
             have q169:x5_2<(l0_3.length:Int):=of_decide_eq_true (by first|(with_reducible assumption)|assumption)
             obtain ⟨ad169,e169,hx169_0,hx169_1⟩:=at_T99 HR0_3.out x5_2 p169 q169
             obtain rfl:ad164=ad169:=(by injection e169)
             replace hx169_0:=pw_cell_below HB.out hx169_0
             replace hx169_1:=pw_cell_below HB.out hx169_1
             replace p169:=eq_true p169
             replace q169:=eq_true q169
             go_wp2_with (first|(go_at_call 50;(with_reducible refine (spec_l2Has.calls k2 _ _ y165 ((rd_T99 l0_3 x5_2).f0) true _ ?side1 ?side2 A25.out).mono ?_);(case side1=>repeat (first|exact (Kd.C_below HR168.out HB.out)|(with_reducible refine Kd.C_alloc ?_ _)|(with_reducible refine Kd.C_drewN ?_ _)|(with_reducible refine Kd.C_drew ?_)));(case side2=>exact HC168.out);rintro e w' ⟨rfl,⟨nd,rfl⟩⟩;(try first|exact ⟨rfl,_,World.drewN_drewN _ _ _⟩|exact ⟨rfl,_,Eq.trans (World.drewN_drewN _ _ _) (congrArg (World.drewN _) (Nat.add_assoc _ _ _))⟩)))
             repeat (go_quiet (first|(go_at_call 50;(with_reducible refine (spec_l2Has.calls k2 _ _ y165 ((rd_T99 l0_3 x5_2).f0) true _ ?side1 ?side2 A25.out).mono ?_);(case side1=>repeat (first|exact (Kd.C_below HR168.out HB.out)|(with_reducible refine Kd.C_alloc ?_ _)|(with_reducible refine Kd.C_drewN ?_ _)|(with_reducible refine Kd.C_drew ?_)));(case side2=>exact HC168.out);rintro e w' ⟨rfl,⟨nd,rfl⟩⟩;(try first|exact ⟨rfl,_,World.drewN_drewN _ _ _⟩|exact ⟨rfl,_,Eq.trans (World.drewN_drewN _ _ _) (congrArg (World.drewN _) (Nat.add_assoc _ _ _))⟩)));try go_wp2_with (first|(go_at_call 50;(with_reducible refine (spec_l2Has.calls k2 _ _ y165 ((rd_T99 l0_3 x5_2).f0) true _ ?side1 ?side2 A25.out).mono ?_);(case side1=>repeat (first|exact (Kd.C_below HR168.out HB.out)|(with_reducible refine Kd.C_alloc ?_ _)|(with_reducible refine Kd.C_drewN ?_ _)|(with_reducible refine Kd.C_drew ?_)));(case side2=>exact HC168.out);rintro e w' ⟨rfl,⟨nd,rfl⟩⟩;(try first|exact ⟨rfl,_,World.drewN_drewN _ _ _⟩|exact ⟨rfl,_,Eq.trans (World.drewN_drewN _ _ _) (congrArg (World.drewN _) (Nat.add_assoc _ _ _))⟩))))
             go_ret
             exact ⟨by first|rfl|(simp [errW_none,errW_some]<;>rfl)|(simp [*,errW_none,errW_some]<;>rfl),by repeat (first|exact HB.out|apply below_alloc|apply pw_below_drewN|apply below_drew1|refine below_set ?_ GE163.out)⟩
            ·replace c26:=Bool.eq_false_iff.mpr c26
             subst c26
             have H1:=H
             rw [if_neg (show ¬ (false=true) by decide)] at H1
             clear H
             have H:=H1
             clear H1
             have H':=Aside0.mk H
             clear H
             obtain ⟨hcz29_0,hcz29_1,hcz29_2,hcz29_3,hcz29_4,hcz29_5,hfz29_0,hfz29_1,hfz29_2,hfz29_3,hfz29_4,hfz29_5⟩:=blkf6 BK163.out
             have p164:0≤(x5_2:Int):=of_decide_eq_true (by first|(with_reducible assumption)|assumption)
             have q164:x5_2<(l0_3.length:Int):=of_decide_eq_true (by first|(with_reducible assumption)|assumption)
             obtain ⟨ad164,e164,hx164_0,hx164_1⟩:=at_T99 HR0_3.out x5_2 p164 q164
             cases e164
             replace hx164_0:=pw_cell_below HB.out hx164_0
             replace hx164_1:=pw_cell_below HB.out hx164_1
             replace p164:=eq_true p164
             replace q164:=eq_true q164
             have q30:(x5_2:Int)≤((l0_3.length:Int):Int):=of_decide_eq_true (by first|(with_reducible assumption)|assumption)
             obtain ⟨i030,hi030,_,hsz30,_⟩:=info_parts info99
             have hroom30:l0_3.length≤c0_3:=HC0_3.out
             have hC30:Kd.C k99 _ (some ad164) l0_3.length l0_3:=HR0_3.out
             have hcut30:=cut_to (P:=Try.prog) 57 99 .i64 Try.underlying57 hi030 (some ad164) l0_3.length c0_3 x5_2 (of_decide_eq_true (by first|(with_reducible assumption)|assumption)) q30 hroom30
             have hr30:=Kd.C_take (m:=(x5_2:Int).toNat) hC30 (by omega)
             have hy30:y165.length=(x5_2:Int).toNat:=(by rw [Ny165.out,List.length_take];omega)
             rw [← Ny165.out] at hr30
             rw [← hy30] at hcut30
             have HR168:=Aside0.mk hr30
             have HC168:=Aside0.mk (show y165.length≤c0_3 from by omega)
             clear hr30 hC30 hroom30 hi030 hsz30
             have KY30:=Aside0.mk hy30
             clear hy30
             replace q30:=eq_true q30
             have p169:0≤(x5_2:Int):=of_decide_eq_true (by first|(with_reducible assumption)|assumption)
             have q169:x5_2<(l0_3.length:Int):=of_decide_eq_true (by first|(with_reducible assumption)|assumption)
             obtain ⟨ad169,e169,hx169_0,hx169_1⟩:=at_T99 HR0_3.out x5_2 p169 q169
             obtain rfl:ad164=ad169:=(by injection e169)
             replace hx169_0:=pw_cell_below HB.out hx169_0
             replace hx169_1:=pw_cell_below HB.out hx169_1
             replace p169:=eq_true p169
             replace q169:=eq_true q169
             go_wp2_with (first|(go_at_call 50;(with_reducible refine (spec_l2Has.calls k2 _ _ y165 ((rd_T99 l0_3 x5_2).f0) false _ ?side1 ?side2 A25.out).mono ?_);(case side1=>repeat (first|exact (Kd.C_below HR168.out HB.out)|(with_reducible refine Kd.C_alloc ?_ _)|(with_reducible refine Kd.C_drewN ?_ _)|(with_reducible refine Kd.C_drew ?_)));(case side2=>exact HC168.out);rintro e w' ⟨rfl,⟨nd,rfl⟩⟩;(try first|exact ⟨rfl,_,World.drewN_drewN _ _ _⟩|exact ⟨rfl,_,Eq.trans (World.drewN_drewN _ _ _) (congrArg (World.drewN _) (Nat.add_assoc _ _ _))⟩)))
             repeat (go_quiet (first|(go_at_call 50;(with_reducible refine (spec_l2Has.calls k2 _ _ y165 ((rd_T99 l0_3 x5_2).f0) false _ ?side1 ?side2 A25.out).mono ?_);(case side1=>repeat (first|exact (Kd.C_below HR168.out HB.out)|(with_reducible refine Kd.C_alloc ?_ _)|(with_reducible refine Kd.C_drewN ?_ _)|(with_reducible refine Kd.C_drew ?_)));(case side2=>exact HC168.out);rintro e w' ⟨rfl,⟨nd,rfl⟩⟩;(try first|exact ⟨rfl,_,World.drewN_drewN _ _ _⟩|exact ⟨rfl,_,Eq.trans (World.drewN_drewN _ _ _) (congrArg (World.drewN _) (Nat.add_assoc _ _ _))⟩)));try go_wp2_with (first|(go_at_call 50;(with_reducible refine (spec_l2Has.calls k2 _ _ y165 ((rd_T99 l0_3 x5_2).f0) false _ ?side1 ?side2 A25.out).mono ?_);(case side1=>repeat (first|exact (Kd.C_below HR168.out HB.out)|(with_reducible refine Kd.C_alloc ?_ _)|(with_reducible refine Kd.C_drewN ?_ _)|(with_reducible refine Kd.C_drew ?_)));(case side2=>exact HC168.out);rintro e w' ⟨rfl,⟨nd,rfl⟩⟩;(try first|exact ⟨rfl,_,World.drewN_drewN _ _ _⟩|exact ⟨rfl,_,Eq.trans (World.drewN_drewN _ _ _) (congrArg (World.drewN _) (Nat.add_assoc _ _ _))⟩))))
             go_roundg k2
             case measure=>have:=HJ2.out;have:=HK2.out;omega
             case rel=>exact ⟨(wrap64 (x5_2+1)),(by first|rfl|(simp;done)|(simp [*];done)),H',⟨by have:=HJ2.out;have:=HK2.out;omega⟩,⟨by (with_reducible repeat (first|refine blk_drewN ?_ _|refine blk_drew ?_|refine blk_alloc ?_ _));exact BK163.out⟩,⟨by repeat (first|exact HB.out|apply below_alloc|apply pw_below_drewN|apply below_drew1|refine below_set ?_ GE163.out)⟩⟩
           ·rw [if_neg c24] at H
            exact absurd H (by simp)
         ·rw [if_neg c20] at H
          exact absurd H (by simp)
        ·rw [if_neg c19] at H
         have c19b0:decide (x5_2<(l0_3.length:Int))=false:=decide_eq_false c19
         clear c19
         by_cases c31:a0_2.toList=([]:List UInt8)
         ·rw [if_pos c31] at H
          have c31b0:(a0_2.toList==([]:List UInt8))=true:=beq_iff_eq.mpr c31
          have c31b1:(a0_2.toList != ([]:List UInt8))=false:=bne_eq_false_iff_eq.mpr c31
          clear c31
          obtain rfl:=Option.some.inj H
          obtain ⟨hcz32_0,hcz32_1,hcz32_2,hcz32_3,hcz32_4,hcz32_5,hfz32_0,hfz32_1,hfz32_2,hfz32_3,hfz32_4,hfz32_5⟩:=blkf6 BK163.out
          go_wp2
          repeat (go_quiet (fail);try go_wp2)
          go_ret
          exact ⟨by first|rfl|(simp [errW_none,errW_some]<;>rfl)|(simp [*,errW_none,errW_some]<;>rfl),by repeat (first|exact HB.out|apply below_alloc|apply pw_below_drewN|apply below_drew1|refine below_set ?_ GE163.out)⟩
         ·rw [if_neg c31] at H
          have c31b0:(a0_2.toList==([]:List UInt8))=false:=beq_eq_false_iff_ne.mpr c31
          have c31b1:(a0_2.toList != ([]:List UInt8))=true:=bne_iff_ne.mpr c31
          obtain rfl:=Option.some.inj H
          obtain ⟨hcz33_0,hcz33_1,hcz33_2,hcz33_3,hcz33_4,hcz33_5,hfz33_0,hfz33_1,hfz33_2,hfz33_3,hfz33_4,hfz33_5⟩:=blkf6 BK163.out
          go_wp2
          repeat (go_quiet (fail);try go_wp2)
          go_ret
          exact ⟨by first|rfl|(simp [errW_none,errW_some]<;>rfl)|(simp [*,errW_none,errW_some]<;>rfl),by repeat (first|exact HB.out|apply below_alloc|apply pw_below_drewN|apply below_drew1|refine below_set ?_ GE163.out)⟩
     ·rw [if_neg c17] at H
      have c17b0:(a0_1==2)=false:=beq_eq_false_iff_ne.mpr c17
      have c17b1:(a0_1 != 2)=true:=bne_iff_ne.mpr c17
      by_cases c34:a0_1=3
      ·rw [if_pos c34] at H
       have c34b0:(a0_1==3)=true:=beq_iff_eq.mpr c34
       have c34b1:(a0_1 != 3)=false:=bne_eq_false_iff_eq.mpr c34
       clear c34
       by_cases c35:a0_2.toList=([]:List UInt8)
       ·rw [if_pos c35] at H
        have c35b0:(a0_2.toList==([]:List UInt8))=true:=beq_iff_eq.mpr c35
        have c35b1:(a0_2.toList != ([]:List UInt8))=false:=bne_eq_false_iff_eq.mpr c35
        clear c35
        by_cases c36:a0_4.toList=([]:List UInt8)
        ·rw [if_pos c36] at H
         have c36b0:(a0_4.toList==([]:List UInt8))=true:=beq_iff_eq.mpr c36
         have c36b1:(a0_4.toList != ([]:List UInt8))=false:=bne_eq_false_iff_eq.mpr c36
         clear c36
         obtain rfl:=Option.some.inj H
         obtain ⟨hcz37_0,hcz37_1,hcz37_2,hcz37_3,hcz37_4,hcz37_5,hfz37_0,hfz37_1,hfz37_2,hfz37_3,hfz37_4,hfz37_5⟩:=blkf6 BK163.out
         go_wp2
         repeat (go_quiet (fail);try go_wp2)
         go_ret
         exact ⟨by first|rfl|(simp [errW_none,errW_some]<;>rfl)|(simp [*,errW_none,errW_some]<;>rfl),by repeat (first|exact HB.out|apply below_alloc|apply pw_below_drewN|apply below_drew1|refine below_set ?_ GE163.out)⟩
        ·rw [if_neg c36] at H
         have c36b0:(a0_4.toList==([]:List UInt8))=false:=beq_eq_false_iff_ne.mpr c36
         have c36b1:(a0_4.toList != ([]:List UInt8))=true:=bne_iff_ne.mpr c36
         by_cases c38:(l0_3.length:Int)=0
         ·rw [if_pos c38] at H
          have c38b0:((l0_3.length:Int)==0)=true:=beq_iff_eq.mpr c38
          have c38b1:((l0_3.length:Int) != 0)=false:=bne_eq_false_iff_eq.mpr c38
          clear c38
          obtain rfl:=Option.some.inj H
          obtain ⟨hcz39_0,hcz39_1,hcz39_2,hcz39_3,hcz39_4,hcz39_5,hfz39_0,hfz39_1,hfz39_2,hfz39_3,hfz39_4,hfz39_5⟩:=blkf6 BK163.out
          go_wp2
          repeat (go_quiet (fail);try go_wp2)
          go_ret
          exact ⟨by first|rfl|(simp [errW_none,errW_some]<;>rfl)|(simp [*,errW_none,errW_some]<;>rfl),by repeat (first|exact HB.out|apply below_alloc|apply pw_below_drewN|apply below_drew1|refine below_set ?_ GE163.out)⟩
         ·rw [if_neg c38] at H
          have c38b0:((l0_3.length:Int)==0)=false:=beq_eq_false_iff_ne.mpr c38
          have c38b1:((l0_3.length:Int) != 0)=true:=bne_iff_ne.mpr c38
          have c38b2:¬ (l0_3=[]):=fun h_=>c38 (by rw [h_];rfl)
          obtain rfl:=Option.some.inj H
          obtain ⟨hcz40_0,hcz40_1,hcz40_2,hcz40_3,hcz40_4,hcz40_5,hfz40_0,hfz40_1,hfz40_2,hfz40_3,hfz40_4,hfz40_5⟩:=blkf6 BK163.out
          go_wp2
          repeat (go_quiet (fail);try go_wp2)
          go_ret
          exact ⟨by first|rfl|(simp [errW_none,errW_some]<;>rfl)|(simp [*,errW_none,errW_some]<;>rfl),by repeat (first|exact HB.out|apply below_alloc|apply pw_below_drewN|apply below_drew1|refine below_set ?_ GE163.out)⟩
       ·rw [if_neg c35] at H
        have c35b0:(a0_2.toList==([]:List UInt8))=false:=beq_eq_false_iff_ne.mpr c35
        have c35b1:(a0_2.toList != ([]:List UInt8))=true:=bne_iff_ne.mpr c35
        obtain rfl:=Option.some.inj H
        obtain ⟨hcz41_0,hcz41_1,hcz41_2,hcz41_3,hcz41_4,hcz41_5,hfz41_0,hfz41_1,hfz41_2,hfz41_3,hfz41_4,hfz41_5⟩:=blkf6 BK163.out
        go_wp2
        repeat (go_quiet (fail);try go_wp2)
        go_ret
        exact ⟨by first|rfl|(simp [errW_none,errW_some]<;>rfl)|(simp [*,errW_none,errW_some]<;>rfl),by repeat (first|exact HB.out|apply below_alloc|apply pw_below_drewN|apply below_drew1|refine below_set ?_ GE163.out)⟩
      ·rw [if_neg c34] at H
       have c34b0:(a0_1==3)=false:=beq_eq_false_iff_ne.mpr c34
       have c34b1:(a0_1 != 3)=true:=bne_iff_ne.mpr c34
       by_cases c42:a0_1=4
       ·rw [if_pos c42] at H
        have c42b0:(a0_1==4)=true:=beq_iff_eq.mpr c42
        have c42b1:(a0_1 != 4)=false:=bne_eq_false_iff_eq.mpr c42
        clear c42
        by_cases c43:a0_2.toList=([]:List UInt8)
        ·rw [if_pos c43] at H
         have c43b0:(a0_2.toList==([]:List UInt8))=true:=beq_iff_eq.mpr c43
         have c43b1:(a0_2.toList != ([]:List UInt8))=false:=bne_eq_false_iff_eq.mpr c43
         clear c43
         by_cases c44:(l0_3.length:Int)=0
         ·rw [if_pos c44] at H
          have c44b0:((l0_3.length:Int)==0)=true:=beq_iff_eq.mpr c44
          have c44b1:((l0_3.length:Int) != 0)=false:=bne_eq_false_iff_eq.mpr c44
          clear c44
          obtain rfl:=Option.some.inj H
          obtain ⟨hcz45_0,hcz45_1,hcz45_2,hcz45_3,hcz45_4,hcz45_5,hfz45_0,hfz45_1,hfz45_2,hfz45_3,hfz45_4,hfz45_5⟩:=blkf6 BK163.out
          go_wp2
          repeat (go_quiet (fail);try go_wp2)
          go_ret
          exact ⟨by first|rfl|(simp [errW_none,errW_some]<;>rfl)|(simp [*,errW_none,errW_some]<;>rfl),by repeat (first|exact HB.out|apply below_alloc|apply pw_below_drewN|apply below_drew1|refine below_set ?_ GE163.out)⟩
         ·rw [if_neg c44] at H
          have c44b0:((l0_3.length:Int)==0)=false:=beq_eq_false_iff_ne.mpr c44
          have c44b1:((l0_3.length:Int) != 0)=true:=bne_iff_ne.mpr c44
          have c44b2:¬ (l0_3=[]):=fun h_=>c44 (by rw [h_];rfl)
          obtain rfl:=Option.some.inj H
          obtain ⟨hcz46_0,hcz46_1,hcz46_2,hcz46_3,hcz46_4,hcz46_5,hfz46_0,hfz46_1,hfz46_2,hfz46_3,hfz46_4,hfz46_5⟩:=blkf6 BK163.out
          go_wp2
          repeat (go_quiet (fail);try go_wp2)
          go_ret
          exact ⟨by first|rfl|(simp [errW_none,errW_some]<;>rfl)|(simp [*,errW_none,errW_some]<;>rfl),by repeat (first|exact HB.out|apply below_alloc|apply pw_below_drewN|apply below_drew1|refine below_set ?_ GE163.out)⟩
        ·rw [if_neg c43] at H
         have c43b0:(a0_2.toList==([]:List UInt8))=false:=beq_eq_false_iff_ne.mpr c43
         have c43b1:(a0_2.toList != ([]:List UInt8))=true:=bne_iff_ne.mpr c43
         obtain rfl:=Option.some.inj H
         obtain ⟨hcz47_0,hcz47_1,hcz47_2,hcz47_3,hcz47_4,hcz47_5,hfz47_0,hfz47_1,hfz47_2,hfz47_3,hfz47_4,hfz47_5⟩:=blkf6 BK163.out
         go_wp2
         repeat (go_quiet (fail);try go_wp2)
         go_ret
         exact ⟨by first|rfl|(simp [errW_none,errW_some]<;>rfl)|(simp [*,errW_none,errW_some]<;>rfl),by repeat (first|exact HB.out|apply below_alloc|apply pw_below_drewN|apply below_drew1|refine below_set ?_ GE163.out)⟩
       ·rw [if_neg c42] at H
        have c42b0:(a0_1==4)=false:=beq_eq_false_iff_ne.mpr c42
        have c42b1:(a0_1 != 4)=true:=bne_iff_ne.mpr c42
        by_cases c48:a0_1=5
        ·rw [if_pos c48] at H
         have c48b0:(a0_1==5)=true:=beq_iff_eq.mpr c48
         have c48b1:(a0_1 != 5)=false:=bne_eq_false_iff_eq.mpr c48
         clear c48
         by_cases c49:a0_4.toList=([]:List UInt8)
         ·rw [if_pos c49] at H
          have c49b0:(a0_4.toList==([]:List UInt8))=true:=beq_iff_eq.mpr c49
          have c49b1:(a0_4.toList != ([]:List UInt8))=false:=bne_eq_false_iff_eq.mpr c49
          clear c49
          by_cases c50:(l0_3.length:Int)=0
          ·rw [if_pos c50] at H
           have c50b0:((l0_3.length:Int)==0)=true:=beq_iff_eq.mpr c50
           have c50b1:((l0_3.length:Int) != 0)=false:=bne_eq_false_iff_eq.mpr c50
           clear c50
           obtain rfl:=Option.some.inj H
           obtain ⟨hcz51_0,hcz51_1,hcz51_2,hcz51_3,hcz51_4,hcz51_5,hfz51_0,hfz51_1,hfz51_2,hfz51_3,hfz51_4,hfz51_5⟩:=blkf6 BK163.out
           go_wp2
           repeat (go_quiet (fail);try go_wp2)
           go_ret
           exact ⟨by first|rfl|(simp [errW_none,errW_some]<;>rfl)|(simp [*,errW_none,errW_some]<;>rfl),by repeat (first|exact HB.out|apply below_alloc|apply pw_below_drewN|apply below_drew1|refine below_set ?_ GE163.out)⟩
          ·rw [if_neg c50] at H
           have c50b0:((l0_3.length:Int)==0)=false:=beq_eq_false_iff_ne.mpr c50
           have c50b1:((l0_3.length:Int) != 0)=true:=bne_iff_ne.mpr c50
           have c50b2:¬ (l0_3=[]):=fun h_=>c50 (by rw [h_];rfl)
           obtain rfl:=Option.some.inj H
           obtain ⟨hcz52_0,hcz52_1,hcz52_2,hcz52_3,hcz52_4,hcz52_5,hfz52_0,hfz52_1,hfz52_2,hfz52_3,hfz52_4,hfz52_5⟩:=blkf6 BK163.out
           go_wp2
           repeat (go_quiet (fail);try go_wp2)
           go_ret
           exact ⟨by first|rfl|(simp [errW_none,errW_some]<;>rfl)|(simp [*,errW_none,errW_some]<;>rfl),by repeat (first|exact HB.out|apply below_alloc|apply pw_below_drewN|apply below_drew1|refine below_set ?_ GE163.out)⟩
         ·rw [if_neg c49] at H
          have c49b0:(a0_4.toList==([]:List UInt8))=false:=beq_eq_false_iff_ne.mpr c49
          have c49b1:(a0_4.toList != ([]:List UInt8))=true:=bne_iff_ne.mpr c49
          obtain rfl:=Option.some.inj H
          obtain ⟨hcz53_0,hcz53_1,hcz53_2,hcz53_3,hcz53_4,hcz53_5,hfz53_0,hfz53_1,hfz53_2,hfz53_3,hfz53_4,hfz53_5⟩:=blkf6 BK163.out
          go_wp2
          repeat (go_quiet (fail);try go_wp2)
          go_ret
          exact ⟨by first|rfl|(simp [errW_none,errW_some]<;>rfl)|(simp [*,errW_none,errW_some]<;>rfl),by repeat (first|exact HB.out|apply below_alloc|apply pw_below_drewN|apply below_drew1|refine below_set ?_ GE163.out)⟩
        ·rw [if_neg c48] at H
         have c48b0:(a0_1==5)=false:=beq_eq_false_iff_ne.mpr c48
         have c48b1:(a0_1 != 5)=true:=bne_iff_ne.mpr c48
         obtain rfl:=Option.some.inj H
         obtain ⟨hcz54_0,hcz54_1,hcz54_2,hcz54_3,hcz54_4,hcz54_5,hfz54_0,hfz54_1,hfz54_2,hfz54_3,hfz54_4,hfz54_5⟩:=blkf6 BK163.out
         go_wp2
         repeat (go_quiet (fail);try go_wp2)
         go_ret
         exact ⟨by first|rfl|(simp [errW_none,errW_some]<;>rfl)|(simp [*,errW_none,errW_some]<;>rfl),by repeat (first|exact HB.out|apply below_alloc|apply pw_below_drewN|apply below_drew1|refine below_set ?_ GE163.out)⟩
end Go.Proofs.Ytbogfagafdokeaa.QFnExactRangeText
