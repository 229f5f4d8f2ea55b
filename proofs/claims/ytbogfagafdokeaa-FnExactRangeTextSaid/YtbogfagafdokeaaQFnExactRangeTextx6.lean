import Derived.Test.YtbogfagafdokeaaQFnExactRangeTextx0
import Derived.Test.YtbogfagafdokeaaQFnExactRangeTextx5
namespace Go.Proofs.Ytbogfagafdokeaa.QFnExactRangeText
open Go.RowKit Go.Proofs.YtbogfagafdokeaaV.PrintWords Go.Proofs.YtbogfagafdokeaaV.PrintLast Go.Proofs.YtbogfagafdokeaaV.PrintMore
attribute [local go_sem] max2_int min2_int max_two min_two max_three min_three max_four min_four
set_option linter.unusedVariables false
set_option linter.unusedSimpArgs false
/-! ### spec_l4At: function 28 -/
def spec_l4At.l0:Nat→Int→Int→List (S59)→Option (Int)
  |0,_,_,_=>none
  |k+1,x1,x5,x191000=>if x5<(x191000.length:Int) then (if 0≤x5 then (if ((rd_T59 x191000 x5).f0)=x1 then (some x5) else (spec_l4At.l0 k x1 (wrap64 (x5+1)) x191000)) else (none)) else (some (-1))
def spec_l4At.f (k:Nat) (l0_0:List (S59)) (a1:Int):Option (Int):=spec_l4At.l0 k a1 0 l0_0
theorem spec_l4At.mono_l:∀ k,(∀ y0 y1 y2,LeO (spec_l4At.l0 k y0 y1 y2) (spec_l4At.l0 (k+1) y0 y1 y2))
 |0=>fun _ _ _ r h=>by simp [spec_l4At.l0] at h
 |k+1=>by
  have ih0:=spec_l4At.mono_l k
  ·intro y0 y1 y2
   unfold spec_l4At.l0
   repeat' first
  |(with_reducible exact ih0 _ _ _)
  |(with_reducible exact LeO.refl _)
  |(with_reducible exact LeO.none _)
  |(with_reducible refine LeO.ite ?_ ?_)
  |(with_reducible refine LeO.bind ?_ (fun _=>?_))
  |exact ih0 _ _ _
  |exact LeO.none _
  |refine LeO.ite ?_ ?_
  |refine LeO.bind ?_ (fun _=>?_)
theorem spec_l4At.mono:∀ a0 a1 k,LeO (spec_l4At.f k a0 a1) (spec_l4At.f (k+1) a0 a1):=by
 intro a0 a1 k
 have ih0:=spec_l4At.mono_l k
 unfold spec_l4At.f
 repeat' first
  |(with_reducible exact ih0 _ _ _)
  |(with_reducible exact LeO.refl _)
  |(with_reducible exact LeO.none _)
  |(with_reducible refine LeO.ite ?_ ?_)
  |(with_reducible refine LeO.bind ?_ (fun _=>?_))
  |exact ih0 _ _ _
  |exact LeO.none _
  |refine LeO.ite ?_ ?_
  |refine LeO.bind ?_ (fun _=>?_)
set_option maxHeartbeats 8000000 in
set_option maxRecDepth 100000 in
theorem spec_l4At.calls (k:Nat) (A0_0:Option Addr) (c0_0:Nat) (l0_0:List (S59)) (a1:Int) (r:Int) (w:World) (hr0_0:Kd.C k59 w A0_0 l0_0.length l0_0) (hc0_0:l0_0.length≤c0_0) (h:spec_l4At.f k l0_0 a1=some r) :
  Calls Try.prog 28 #[.agg #[.slice A0_0 l0_0.length c0_0],.int .i64 a1] w fun e w'=>e=.returned (.int .i64 r)∧Below w.heap.size w w':=by
 have hu31:=Try.underlying31
 have HR0_0:=Aside0.mk hr0_0
 have HC0_0:=Aside0.mk hc0_0
 clear hr0_0 hc0_0
 have HB:=Aside0.mk (Below.refl w.heap.size w)
 have H:(spec_l4At.l0 k a1 0 l0_0)=some r:=h
 clear h
 have H':=Aside0.mk H
 clear H
 go_enter Try.func28,Try.ntmps28
 go_wp2_with (first|((with_reducible refine gate_dst (N:=2) rfl ?_);refine box_event rfl (N:=2) rfl (cs:=#[.slice A0_0 l0_0.length c0_0]) (t:=31) ?hr ?_;(case hr=>first|(go_simp;done)|(go_simp;rfl));intro gb190 hg w3 hbox hb;have n0_:=Aside0.mk (below_step (by repeat (first|exact HB.out|apply below_alloc|apply pw_below_drewN|apply below_drew1)) hb);have n1_:=Aside0.mk (hbox);have n2_:=Aside0.mk ((by rw [hg];exact (below_size (by repeat (first|exact HB.out|apply below_alloc|apply pw_below_drewN|apply below_drew1))):w.heap.size≤gb190));have n3_:=Aside0.mk ((by rw [hg];exact (below_size (by repeat (first|exact HB.out|apply below_alloc|apply pw_below_drewN|apply below_drew1))):w.heap.size≤gb190));clear HB;have HB:=n0_;have BK190:=n1_;have GW190:=n2_;have GE190:=n3_;clear n0_ n1_ n2_ n3_;clear hb hbox hg))
 go_loopg [5] k (fun kq v5 w'=>∃ (x5_1:Int),v5=.int .i64 x5_1∧Aside0 (spec_l4At.l0 kq a1 x5_1 l0_0=some r)∧Aside0 (kq≤k)∧Aside0 (w'.heap[gb190]?=some (.cells #[(.slice A0_0 l0_0.length c0_0)] 31 (0,0)))∧Aside0 (Below w.heap.size w w'))
 case atStart=>exact ⟨(0),(by first|rfl|(simp;done)|(simp [*];done)),H',⟨Nat.le_refl _⟩,⟨by (with_reducible repeat (first|refine blk_drewN ?_ _|refine blk_drew ?_|refine blk_alloc ?_ _));exact BK190.out⟩,⟨by repeat (first|exact HB.out|apply below_alloc|apply pw_below_drewN|apply below_drew1|refine below_set ?_ GE190.out)⟩⟩
 case round=>
  clear H'
  obtain ⟨x5_1,rfl,HA,HK1,BK190,HB⟩:=hrel
  cases gk with
 |zero=>exact absurd HA.out (by simp [spec_l4At.l0])
 |succ k1=>
   have H:=HA.out
   clear HA
   simp only [spec_l4At.l0] at H
   by_cases c4:x5_1<(l0_0.length:Int)
   ·rw [if_pos c4] at H
    have c4b0:decide (x5_1<(l0_0.length:Int))=true:=decide_eq_true c4
    clear c4
    by_cases c5:0≤x5_1
    ·rw [if_pos c5] at H
     have c5b0:decide (0≤x5_1)=true:=decide_eq_true c5
     clear c5
     by_cases c6:((rd_T59 l0_0 x5_1).f0)=a1
     ·rw [if_pos c6] at H
      have c6b0:(((rd_T59 l0_0 x5_1).f0)==a1)=true:=beq_iff_eq.mpr c6
      have c6b1:(((rd_T59 l0_0 x5_1).f0) != a1)=false:=bne_eq_false_iff_eq.mpr c6
      clear c6
      obtain rfl:=Option.some.inj H
      have hcz7_0:wr.cell? ⟨gb190,0,none⟩=some (.slice A0_0 l0_0.length c0_0):=(blk_cell BK190.out 0).trans rfl
      have hfz7_0:=blk_frozen BK190.out 0
      have p191:0≤(x5_1:Int):=of_decide_eq_true (by first|(with_reducible assumption)|assumption)
      have q191:x5_1<(l0_0.length:Int):=of_decide_eq_true (by first|(with_reducible assumption)|assumption)
      obtain ⟨ad191,A191_3,c191_3,e191,hx191_0,hx191_1,hx191_2,hx191_3,hx191_4,hx191_5,hl191_3,hi191_3⟩:=at_T59 HR0_0.out x5_1 p191 q191
      cases e191
      replace hx191_0:=pw_cell_below HB.out hx191_0
      replace hx191_1:=pw_cell_below HB.out hx191_1
      replace hx191_2:=pw_cell_below HB.out hx191_2
      replace hx191_3:=pw_cell_below HB.out hx191_3
      replace hx191_4:=pw_cell_below HB.out hx191_4
      replace hx191_5:=pw_cell_below HB.out hx191_5
      have HR191_3:=Aside0.mk hi191_3
      have HC191_3:=Aside0.mk hl191_3
      clear hi191_3 hl191_3
      replace p191:=eq_true p191
      replace q191:=eq_true q191
      go_wp2
      go_ret
      exact ⟨by first|rfl|(simp [errW_none,errW_some]<;>rfl)|(simp [*,errW_none,errW_some]<;>rfl),by repeat (first|exact HB.out|apply below_alloc|apply pw_below_drewN|apply below_drew1|refine below_set ?_ GE190.out)⟩
     ·rw [if_neg c6] at H
      have c6b0:(((rd_T59 l0_0 x5_1).f0)==a1)=false:=beq_eq_false_iff_ne.mpr c6
      have c6b1:(((rd_T59 l0_0 x5_1).f0) != a1)=true:=bne_iff_ne.mpr c6
      have H':=Aside0.mk H
      clear H
      have hcz8_0:wr.cell? ⟨gb190,0,none⟩=some (.slice A0_0 l0_0.length c0_0):=(blk_cell BK190.out 0).trans rfl
      have hfz8_0:=blk_frozen BK190.out 0
      have p191:0≤(x5_1:Int):=of_decide_eq_true (by first|(with_reducible assumption)|assumption)
      have q191:x5_1<(l0_0.length:Int):=of_decide_eq_true (by first|(with_reducible assumption)|assumption)
      obtain ⟨ad191,A191_3,c191_3,e191,hx191_0,hx191_1,hx191_2,hx191_3,hx191_4,hx191_5,hl191_3,hi191_3⟩:=at_T59 HR0_0.out x5_1 p191 q191
      cases e191
      replace hx191_0:=pw_cell_below HB.out hx191_0
      replace hx191_1:=pw_cell_below HB.out hx191_1
      replace hx191_2:=pw_cell_below HB.out hx191_2
      replace hx191_3:=pw_cell_below HB.out hx191_3
      replace hx191_4:=pw_cell_below HB.out hx191_4
      replace hx191_5:=pw_cell_below HB.out hx191_5
      have HR191_3:=Aside0.mk hi191_3
      have HC191_3:=Aside0.mk hl191_3
      clear hi191_3 hl191_3
      replace p191:=eq_true p191
      replace q191:=eq_true q191
      go_wp2
      go_roundg k1
      case measure=>have:=HK1.out;omega
      case rel=>exact ⟨(wrap64 (x5_1+1)),(by first|rfl|(simp;done)|(simp [*];done)),H',⟨by have:=HK1.out;omega⟩,⟨by (with_reducible repeat (first|refine blk_drewN ?_ _|refine blk_drew ?_|refine blk_alloc ?_ _));exact BK190.out⟩,⟨by repeat (first|exact HB.out|apply below_alloc|apply pw_below_drewN|apply below_drew1|refine below_set ?_ GE190.out)⟩⟩
    ·rw [if_neg c5] at H
     exact absurd H (by simp)
   ·rw [if_neg c4] at H
    have c4b0:decide (x5_1<(l0_0.length:Int))=false:=decide_eq_false c4
    clear c4
    obtain rfl:=Option.some.inj H
    have hcz9_0:wr.cell? ⟨gb190,0,none⟩=some (.slice A0_0 l0_0.length c0_0):=(blk_cell BK190.out 0).trans rfl
    have hfz9_0:=blk_frozen BK190.out 0
    go_wp2
    go_ret
    exact ⟨by first|rfl|(simp [errW_none,errW_some]<;>rfl)|(simp [*,errW_none,errW_some]<;>rfl),by repeat (first|exact HB.out|apply below_alloc|apply pw_below_drewN|apply below_drew1|refine below_set ?_ GE190.out)⟩
/-! ### spec_l5Most: function 29 -/
def spec_l5Most.f (a0_0:Int) (a0_1:Int) (a0_2:ByteArray) (l0_3:List (S99)) (a0_4:ByteArray) (a0_5:Int):Option (Int):=if a0_1=3 then (some (a0_4.size:Int)) else (some a0_5)
set_option maxHeartbeats 8000000 in
set_option maxRecDepth 100000 in
theorem spec_l5Most.calls (a0_0:Int) (a0_1:Int) (a0_2:ByteArray) (A0_3:Option Addr) (c0_3:Nat) (l0_3:List (S99)) (a0_4:ByteArray) (a0_5:Int) (r:Int) (w:World) (hr0_3:Kd.C k99 w A0_3 l0_3.length l0_3) (hc0_3:l0_3.length≤c0_3) (h:spec_l5Most.f a0_0 a0_1 a0_2 l0_3 a0_4 a0_5=some r) :
  Calls Try.prog 29 #[.agg #[.int .i64 a0_0,.int .i64 a0_1,.string a0_2,.slice A0_3 l0_3.length c0_3,.string a0_4,.int .i64 a0_5]] w fun e w'=>e=.returned (.int .i64 r)∧Below w.heap.size w w':=by
 have hu59:=Try.underlying59
 have HR0_3:=Aside0.mk hr0_3
 have HC0_3:=Aside0.mk hc0_3
 clear hr0_3 hc0_3
 have HB:=Aside0.mk (Below.refl w.heap.size w)
 have H:(if a0_1=3 then (some (a0_4.size:Int)) else (some a0_5))=some r:=h
 clear h
 by_cases c2:a0_1=3
 ·rw [if_pos c2] at H
  have c2b0:(a0_1==3)=true:=beq_iff_eq.mpr c2
  have c2b1:(a0_1 != 3)=false:=bne_eq_false_iff_eq.mpr c2
  clear c2
  obtain rfl:=Option.some.inj H
  go_enter Try.func29,Try.ntmps29
  go_wp2_with (first|((with_reducible refine gate_dst (N:=1) rfl ?_);refine box_event rfl (N:=1) rfl (cs:=#[.int .i64 a0_0,.int .i64 a0_1,.string a0_2,.slice A0_3 l0_3.length c0_3,.string a0_4,.int .i64 a0_5]) (t:=59) ?hr ?_;(case hr=>first|(go_simp;done)|(go_simp;rfl));intro gb192 hg w3 hbox hb;have n0_:=Aside0.mk (below_step (by repeat (first|exact HB.out|apply below_alloc|apply pw_below_drewN|apply below_drew1)) hb);have n1_:=Aside0.mk (hbox);have n2_:=Aside0.mk ((by rw [hg];exact (below_size (by repeat (first|exact HB.out|apply below_alloc|apply pw_below_drewN|apply below_drew1))):w.heap.size≤gb192));have n3_:=Aside0.mk ((by rw [hg];exact (below_size (by repeat (first|exact HB.out|apply below_alloc|apply pw_below_drewN|apply below_drew1))):w.heap.size≤gb192));clear HB;have HB:=n0_;have BK192:=n1_;have GW192:=n2_;have GE192:=n3_;clear n0_ n1_ n2_ n3_;clear hb hbox hg;have hcz4_0:w3.cell? ⟨gb192,0,none⟩=some (.int .i64 a0_0):=(blk_cell BK192.out 0).trans rfl;have hcz4_1:w3.cell? ⟨gb192,1,none⟩=some (.int .i64 a0_1):=(blk_cell BK192.out 1).trans rfl;have hcz4_2:w3.cell? ⟨gb192,2,none⟩=some (.string a0_2):=(blk_cell BK192.out 2).trans rfl;have hcz4_3:w3.cell? ⟨gb192,3,none⟩=some (.slice A0_3 l0_3.length c0_3):=(blk_cell BK192.out 3).trans rfl;have hcz4_4:w3.cell? ⟨gb192,4,none⟩=some (.string a0_4):=(blk_cell BK192.out 4).trans rfl;have hcz4_5:w3.cell? ⟨gb192,5,none⟩=some (.int .i64 a0_5):=(blk_cell BK192.out 5).trans rfl;have hfz4_0:=blk_frozen BK192.out 0;have hfz4_1:=blk_frozen BK192.out 1;have hfz4_2:=blk_frozen BK192.out 2;have hfz4_3:=blk_frozen BK192.out 3;have hfz4_4:=blk_frozen BK192.out 4;have hfz4_5:=blk_frozen BK192.out 5))
  go_ret
  exact ⟨by first|rfl|(simp [errW_none,errW_some]<;>rfl)|(simp [*,errW_none,errW_some]<;>rfl),by repeat (first|exact HB.out|apply below_alloc|apply pw_below_drewN|apply below_drew1|refine below_set ?_ GE192.out)⟩
 ·rw [if_neg c2] at H
  have c2b0:(a0_1==3)=false:=beq_eq_false_iff_ne.mpr c2
  have c2b1:(a0_1 != 3)=true:=bne_iff_ne.mpr c2
  obtain rfl:=Option.some.inj H
  go_enter Try.func29,Try.ntmps29
  go_wp2_with (first|((with_reducible refine gate_dst (N:=1) rfl ?_);refine box_event rfl (N:=1) rfl (cs:=#[.int .i64 a0_0,.int .i64 a0_1,.string a0_2,.slice A0_3 l0_3.length c0_3,.string a0_4,.int .i64 a0_5]) (t:=59) ?hr ?_;(case hr=>first|(go_simp;done)|(go_simp;rfl));intro gb192 hg w5 hbox hb;have n0_:=Aside0.mk (below_step (by repeat (first|exact HB.out|apply below_alloc|apply pw_below_drewN|apply below_drew1)) hb);have n1_:=Aside0.mk (hbox);have n2_:=Aside0.mk ((by rw [hg];exact (below_size (by repeat (first|exact HB.out|apply below_alloc|apply pw_below_drewN|apply below_drew1))):w.heap.size≤gb192));have n3_:=Aside0.mk ((by rw [hg];exact (below_size (by repeat (first|exact HB.out|apply below_alloc|apply pw_below_drewN|apply below_drew1))):w.heap.size≤gb192));clear HB;have HB:=n0_;have BK192:=n1_;have GW192:=n2_;have GE192:=n3_;clear n0_ n1_ n2_ n3_;clear hb hbox hg;have hcz6_0:w5.cell? ⟨gb192,0,none⟩=some (.int .i64 a0_0):=(blk_cell BK192.out 0).trans rfl;have hcz6_1:w5.cell? ⟨gb192,1,none⟩=some (.int .i64 a0_1):=(blk_cell BK192.out 1).trans rfl;have hcz6_2:w5.cell? ⟨gb192,2,none⟩=some (.string a0_2):=(blk_cell BK192.out 2).trans rfl;have hcz6_3:w5.cell? ⟨gb192,3,none⟩=some (.slice A0_3 l0_3.length c0_3):=(blk_cell BK192.out 3).trans rfl;have hcz6_4:w5.cell? ⟨gb192,4,none⟩=some (.string a0_4):=(blk_cell BK192.out 4).trans rfl;have hcz6_5:w5.cell? ⟨gb192,5,none⟩=some (.int .i64 a0_5):=(blk_cell BK192.out 5).trans rfl;have hfz6_0:=blk_frozen BK192.out 0;have hfz6_1:=blk_frozen BK192.out 1;have hfz6_2:=blk_frozen BK192.out 2;have hfz6_3:=blk_frozen BK192.out 3;have hfz6_4:=blk_frozen BK192.out 4;have hfz6_5:=blk_frozen BK192.out 5))
  go_ret
  exact ⟨by first|rfl|(simp [errW_none,errW_some]<;>rfl)|(simp [*,errW_none,errW_some]<;>rfl),by repeat (first|exact HB.out|apply below_alloc|apply pw_below_drewN|apply below_drew1|refine below_set ?_ GE192.out)⟩
/-! ### spec_SpotOk: function 15 -/
def spec_SpotOk.f (k:Nat) (l0_0:List (S59)) (a1_0:Int) (a1_1:Int):Option (Bool):=(spec_TreeOk.f k l0_0).bind fun t195=>(if t195=true then ((spec_l4At.f k l0_0 a1_0).bind fun t196=>(if t196≥0 then (if a1_1≥0 then (if 0≤t196 then (if t196<(l0_0.length:Int) then ((spec_l5Most.f ((rd_T59 l0_0 t196).f0) ((rd_T59 l0_0 t196).f1) ((rd_T59 l0_0 t196).f2) ((rd_T59 l0_0 t196).f3) ((rd_T59 l0_0 t196).f4) ((rd_T59 l0_0 t196).f5)).bind fun t198=>(some (decide (a1_1≤t198)))) else (none)) else (none)) else (some false)) else (some false))) else (some false))
theorem spec_SpotOk.mono:∀ a0 a1 a2 k,LeO (spec_SpotOk.f k a0 a1 a2) (spec_SpotOk.f (k+1) a0 a1 a2):=by
 intro a0 a1 a2 k
 unfold spec_SpotOk.f
 repeat' first
  |(with_reducible exact spec_TreeOk.mono _ _)
  |(with_reducible exact spec_l4At.mono _ _ _)
  |(with_reducible exact LeO.refl _)
  |(with_reducible exact LeO.none _)
  |(with_reducible refine LeO.ite ?_ ?_)
  |(with_reducible refine LeO.bind ?_ (fun _=>?_))
  |exact spec_TreeOk.mono _ _
  |exact spec_l4At.mono _ _ _
  |exact LeO.none _
  |refine LeO.ite ?_ ?_
  |refine LeO.bind ?_ (fun _=>?_)
def spec_SpotOk.T4:Bool×List (List Nat×List Nat):=(true,[([],[]),([0],[0]),([1],[1]),([2],[2]),([3,2],[2,3]),([4,2],[2,4]),([2,5],[2,5]),([6,2],[6]),([7],[7]),([8,7],[7,8]),([7],[7]),([10,7],[7,10]),([7],[7]),([11,12,7],[7,11,12]),([13,7],[7,13]),([14,7,7],[7,14]),([9,15,7],[7,9,15]),([7,16],[7,16]),([17,15,0,1,2,3,4,5,6,7,8,9,10,11,12,13,14,15,16,17],[17])])
def spec_SpotOk.B4:List Nat:=[0,1,3,7,15,31,63,127,255,511,255,1279,255,7423,15615,31999,65535,131071,262143]
theorem spec_SpotOk.tab4:rtab .any (opsOf Try.f15 4)=spec_SpotOk.T4:=by kernel_rfl
theorem spec_SpotOk.bits4:waitsOk spec_SpotOk.T4.2 spec_SpotOk.B4=true:=by kernel_rfl
set_option maxHeartbeats 8000000 in
set_option maxRecDepth 100000 in
theorem spec_SpotOk.calls (k:Nat) (A0_0:Option Addr) (c0_0:Nat) (l0_0:List (S59)) (a1_0:Int) (a1_1:Int) (r:Bool) (w:World) (hr0_0:Kd.C k59 w A0_0 l0_0.length l0_0) (hc0_0:l0_0.length≤c0_0) (h:spec_SpotOk.f k l0_0 a1_0 a1_1=some r) :
  Calls Try.prog 15 #[.agg #[.slice A0_0 l0_0.length c0_0],.agg #[.int .i64 a1_0,.int .i64 a1_1]] w fun e w'=>e=.returned (.bool r)∧Below w.heap.size w w':=by
 have hu31:=Try.underlying31
 have hu33:=Try.underlying33
 have hu59:=Try.underlying59
 have HR0_0:=Aside0.mk hr0_0
 have HC0_0:=Aside0.mk hc0_0
 clear hr0_0 hc0_0
 have HB:=Aside0.mk (Below.refl w.heap.size w)
 have H:((spec_TreeOk.f k l0_0).bind fun t195=>(if t195=true then ((spec_l4At.f k l0_0 a1_0).bind fun t196=>(if t196≥0 then (if a1_1≥0 then (if 0≤t196 then (if t196<(l0_0.length:Int) then ((spec_l5Most.f ((rd_T59 l0_0 t196).f0) ((rd_T59 l0_0 t196).f1) ((rd_T59 l0_0 t196).f2) ((rd_T59 l0_0 t196).f3) ((rd_T59 l0_0 t196).f4) ((rd_T59 l0_0 t196).f5)).bind fun t198=>(some (decide (a1_1≤t198)))) else (none)) else (none)) else (some false)) else (some false))) else (some false)))=some r:=h
 clear h
 replace H:=Option.bind_eq_some_iff.mp H
 obtain ⟨t195,A30,H⟩:=H
 try dsimp only at H
 have A3:=Aside0.mk A30
 clear A30
 by_cases c4:t195=true
 ·subst c4
  have H1:=H
  rw [if_pos rfl] at H1
  clear H
  have H:=H1
  clear H1
  replace H:=Option.bind_eq_some_iff.mp H
  obtain ⟨t196,A50,H⟩:=H
  try dsimp only at H
  have A5:=Aside0.mk A50
  clear A50
  by_cases c6:t196≥0
  ·rw [if_pos c6] at H
   have c6b0:decide (0≤t196)=true:=decide_eq_true c6
   clear c6
   by_cases c7:a1_1≥0
   ·rw [if_pos c7] at H
    have c7b0:decide (0≤a1_1)=true:=decide_eq_true c7
    clear c7
    by_cases c8:0≤t196
    ·rw [if_pos c8] at H
     have c8b0:decide (0≤t196)=true:=decide_eq_true c8
     clear c8
     by_cases c9:t196<(l0_0.length:Int)
     ·rw [if_pos c9] at H
      have c9b0:decide (t196<(l0_0.length:Int))=true:=decide_eq_true c9
      clear c9
      replace H:=Option.bind_eq_some_iff.mp H
      obtain ⟨t198,A100,H⟩:=H
      try dsimp only at H
      have A10:=Aside0.mk A100
      clear A100
      obtain rfl:=Option.some.inj H
      go_enter Try.func15,Try.ntmps15
      try go_wp2_with (first|((with_reducible refine gate_dst (N:=2) rfl ?_);refine box_event rfl (N:=2) rfl (cs:=#[.slice A0_0 l0_0.length c0_0]) (t:=31) ?hr ?_;(case hr=>first|(go_simp;done)|(go_simp;rfl));intro gb193 hg w11 hbox hb;have n0_:=Aside0.mk (below_step (by repeat (first|exact HB.out|apply below_alloc|apply pw_below_drewN|apply below_drew1)) hb);have n1_:=Aside0.mk (hbox);have n2_:=Aside0.mk ((by rw [hg];exact (below_size (by repeat (first|exact HB.out|apply below_alloc|apply pw_below_drewN|apply below_drew1))):w.heap.size≤gb193));have n3_:=Aside0.mk ((by rw [hg];exact (below_size (by repeat (first|exact HB.out|apply below_alloc|apply pw_below_drewN|apply below_drew1))):w.heap.size≤gb193));clear HB;have HB:=n0_;have BK193:=n1_;have GW193:=n2_;have GE193:=n3_;clear n0_ n1_ n2_ n3_;clear hb hbox hg)|((with_reducible refine gate_dst (N:=3) rfl ?_);refine box_event rfl (N:=3) rfl (cs:=#[.int .i64 a1_0,.int .i64 a1_1]) (t:=33) ?hr ?_;(case hr=>first|(go_simp;done)|(go_simp;rfl));intro gb194 hg w12 hbox hb;have n0_:=Aside0.mk (blk_below (g:=gb193) (o:=.cells #[.slice A0_0 l0_0.length c0_0] 31 (0,0)) (by (with_reducible repeat (first|refine blk_drewN ?_ _|refine blk_drew ?_|refine blk_alloc ?_ _));exact BK193.out) hb);have n1_:=Aside0.mk (below_step (by repeat (first|exact HB.out|apply below_alloc|apply pw_below_drewN|apply below_drew1|refine below_set ?_ GE193.out)) hb);have n2_:=Aside0.mk (hbox);have n3_:=Aside0.mk ((by rw [hg];exact (below_size (by repeat (first|exact HB.out|apply below_alloc|apply pw_below_drewN|apply below_drew1|refine below_set ?_ GE193.out))):w.heap.size≤gb194));have n4_:=Aside0.mk ((by rw [hg];exact (below_size (by repeat (first|exact HB.out|apply below_alloc|apply pw_below_drewN|apply below_drew1|refine below_set ?_ GE193.out))):w.heap.size≤gb194));have n5_:=Aside0.mk ((by rw [hg];exact Nat.ne_of_lt (blk_lt (g:=gb193) (o:=.cells #[.slice A0_0 l0_0.length c0_0] 31 (0,0)) (by (with_reducible repeat (first|refine blk_drewN ?_ _|refine blk_drew ?_|refine blk_alloc ?_ _));exact BK193.out)):gb193≠gb194));have n6_:=Aside0.mk ((by rw [hg];exact Nat.ne_of_gt (blk_lt (g:=gb193) (o:=.cells #[.slice A0_0 l0_0.length c0_0] 31 (0,0)) (by (with_reducible repeat (first|refine blk_drewN ?_ _|refine blk_drew ?_|refine blk_alloc ?_ _));exact BK193.out)):gb194≠gb193));clear BK193;clear HB;have BK193:=n0_;have HB:=n1_;have BK194:=n2_;have GW194:=n3_;have GE194:=n4_;have NB193_194:=n5_;have NB194_193:=n6_;clear n0_ n1_ n2_ n3_ n4_ n5_ n6_;clear hb hbox hg;have hnb13:=NB193_194.out;have hnc13:=NB194_193.out;have hcz14_0:w12.cell? ⟨gb193,0,none⟩=some (.slice A0_0 l0_0.length c0_0):=(blk_cell BK193.out 0).trans rfl;have hfz14_0:=blk_frozen BK193.out 0)|((with_reducible refine gate_callee (f:=27) rfl ?_);refine goesL_ (some 7) rfl rfl Try.func27 (by kernel_rfl) rfl #[.agg #[.slice A0_0 l0_0.length c0_0]] rfl (by (try simp only [List.map_toArray,List.map_cons,List.map_nil]);first|done|rfl|(simp only [List.length_drop,List.length_take];rfl)) ?_;(with_reducible refine (spec_TreeOk.calls k _ _ l0_0 true _ ?side1 ?side2 A3.out).mono ?_);(case side1=>repeat (first|exact (Kd.C_below HR0_0.out HB.out)|(with_reducible refine Kd.C_alloc ?_ _)|(with_reducible refine Kd.C_drewN ?_ _)|(with_reducible refine Kd.C_drew ?_)));(case side2=>exact HC0_0.out);rintro e w15 ⟨rfl,hb⟩;refine ⟨_,rfl,?_⟩;have n0_:=Aside0.mk (blk_below (g:=gb193) (o:=.cells #[.slice A0_0 l0_0.length c0_0] 31 (0,0)) (by (with_reducible repeat (first|refine blk_drewN ?_ _|refine blk_drew ?_|refine blk_alloc ?_ _));exact BK193.out) hb);have n1_:=Aside0.mk (blk_below (g:=gb194) (o:=.cells #[.int .i64 a1_0,.int .i64 a1_1] 33 (0,0)) (by (with_reducible repeat (first|refine blk_drewN ?_ _|refine blk_drew ?_|refine blk_alloc ?_ _));exact BK194.out) hb);have n2_:=Aside0.mk (below_step (by repeat (first|exact HB.out|apply below_alloc|apply pw_below_drewN|apply below_drew1|refine below_set ?_ GE193.out|refine below_set ?_ GE194.out)) hb);clear BK193;clear BK194;clear HB;have BK193:=n0_;have BK194:=n1_;have HB:=n2_;clear n0_ n1_ n2_;(try clear hb);(try clear hb2);(try clear hk);(try clear hi);have hcz16_0:w15.cell? ⟨gb193,0,none⟩=some (.slice A0_0 l0_0.length c0_0):=(blk_cell BK193.out 0).trans rfl;have hfz16_0:=blk_frozen BK193.out 0;have hcz17_0:w15.cell? ⟨gb194,0,none⟩=some (.int .i64 a1_0):=(blk_cell BK194.out 0).trans rfl;have hcz17_1:w15.cell? ⟨gb194,1,none⟩=some (.int .i64 a1_1):=(blk_cell BK194.out 1).trans rfl;have hfz17_0:=blk_frozen BK194.out 0;have hfz17_1:=blk_frozen BK194.out 1)|((with_reducible refine gate_callee (f:=28) rfl ?_);refine goesL_ (some 12) rfl rfl Try.func28 (by kernel_rfl) rfl #[.agg #[.slice A0_0 l0_0.length c0_0],.int .i64 a1_0] rfl (by (try simp only [List.map_toArray,List.map_cons,List.map_nil]);first|done|rfl|(simp only [List.length_drop,List.length_take];rfl)) ?_;(with_reducible refine (spec_l4At.calls k _ _ l0_0 a1_0 t196 _ ?side1 ?side2 A5.out).mono ?_);(case side1=>repeat (first|exact (Kd.C_below HR0_0.out HB.out)|(with_reducible refine Kd.C_alloc ?_ _)|(with_reducible refine Kd.C_drewN ?_ _)|(with_reducible refine Kd.C_drew ?_)));(case side2=>exact HC0_0.out);rintro e w18 ⟨rfl,hb⟩;refine ⟨_,rfl,?_⟩;have n0_:=Aside0.mk (blk_below (g:=gb193) (o:=.cells #[.slice A0_0 l0_0.length c0_0] 31 (0,0)) (by (with_reducible repeat (first|refine blk_drewN ?_ _|refine blk_drew ?_|refine blk_alloc ?_ _));exact BK193.out) hb);have n1_:=Aside0.mk (blk_below (g:=gb194) (o:=.cells #[.int .i64 a1_0,.int .i64 a1_1] 33 (0,0)) (by (with_reducible repeat (first|refine blk_drewN ?_ _|refine blk_drew ?_|refine blk_alloc ?_ _));exact BK194.out) hb);have n2_:=Aside0.mk (below_step (by repeat (first|exact HB.out|apply below_alloc|apply pw_below_drewN|apply below_drew1|refine below_set ?_ GE193.out|refine below_set ?_ GE194.out)) hb);clear BK193;clear BK194;clear HB;have BK193:=n0_;have BK194:=n1_;have HB:=n2_;clear n0_ n1_ n2_;(try clear hb);(try clear hb2);(try clear hk);(try clear hi)))
      have n0_:=Aside0.mk (blk_drew BK193.out)
      have n1_:=Aside0.mk (blk_drew BK194.out)
      have n2_:=Aside0.mk (below_drew1 HB.out)
      clear BK193
      clear BK194
      clear HB
      have BK193:=n0_
      have BK194:=n1_
      have HB:=n2_
      clear n0_ n1_ n2_
      have p197:0≤(t196:Int):=of_decide_eq_true (by first|(with_reducible assumption)|assumption)
      have q197:t196<(l0_0.length:Int):=of_decide_eq_true (by first|(with_reducible assumption)|assumption)
      obtain ⟨ad197,A197_3,c197_3,e197,hx197_0,hx197_1,hx197_2,hx197_3,hx197_4,hx197_5,hl197_3,hi197_3⟩:=at_T59 HR0_0.out t196 p197 q197
      have hw197_5:=hx197_5
      have hw197_4:=hx197_4
      have hw197_3:=hx197_3
      have hw197_2:=hx197_2
      have hw197_1:=hx197_1
      have hw197_0:=hx197_0
      cases e197
      replace hx197_0:=pw_cell_below HB.out hx197_0
      replace hx197_1:=pw_cell_below HB.out hx197_1
      replace hx197_2:=pw_cell_below HB.out hx197_2
      replace hx197_3:=pw_cell_below HB.out hx197_3
      replace hx197_4:=pw_cell_below HB.out hx197_4
      replace hx197_5:=pw_cell_below HB.out hx197_5
      have HR197_3:=Aside0.mk hi197_3
      have HC197_3:=Aside0.mk hl197_3
      clear hi197_3 hl197_3
      replace p197:=eq_true p197
      replace q197:=eq_true q197
      refine start_ (n:=19) (S:=fun w'=>w'.cell? ⟨gb194,0,none⟩=some (.int .i64 a1_0)∧w'.cell? ⟨gb194,1,none⟩=some (.int .i64 a1_1)∧w'.cell? ⟨gb193,0,none⟩=some (.slice (some ad197) l0_0.length c0_0)∧w'.cell? (ad197.add ((t196).toNat*6))=some (.int .i64 ((rd_T59 l0_0 t196).f0))∧w'.cell? ⟨(ad197.add ((t196).toNat*6)).block,(ad197.add ((t196).toNat*6)).off+1,none⟩=some (.int .i64 ((rd_T59 l0_0 t196).f1))∧w'.cell? ⟨(ad197.add ((t196).toNat*6)).block,(ad197.add ((t196).toNat*6)).off+2,none⟩=some (.string ((rd_T59 l0_0 t196).f2))∧w'.cell? ⟨(ad197.add ((t196).toNat*6)).block,(ad197.add ((t196).toNat*6)).off+3,none⟩=some (.slice A197_3 ((rd_T59 l0_0 t196).f3).length c197_3)∧w'.cell? ⟨(ad197.add ((t196).toNat*6)).block,(ad197.add ((t196).toNat*6)).off+4,none⟩=some (.string ((rd_T59 l0_0 t196).f4))∧w'.cell? ⟨(ad197.add ((t196).toNat*6)).block,(ad197.add ((t196).toNat*6)).off+5,none⟩=some (.int .i64 ((rd_T59 l0_0 t196).f5))) (ds:=[]) #[false,false,false,false,false,false,false,false,false,false,false,false,false,false,false,false,false,false,false] (by kernel_rfl) rfl rfl ⟨(blk_cell BK194.out 0).trans rfl,(blk_cell BK194.out 1).trans rfl,(blk_cell BK193.out 0).trans rfl,((HB.out.cell (World.block_lt_of_cell? w _ hw197_0)).trans hw197_0),((HB.out.cell (World.block_lt_of_cell? w _ hw197_1)).trans hw197_1),((HB.out.cell (World.block_lt_of_cell? w _ hw197_2)).trans hw197_2),((HB.out.cell (World.block_lt_of_cell? w _ hw197_3)).trans hw197_3),((HB.out.cell (World.block_lt_of_cell? w _ hw197_4)).trans hw197_4),((HB.out.cell (World.block_lt_of_cell? w _ hw197_5)).trans hw197_5)⟩ (fun hHeld=>?_);refine with_tabW spec_SpotOk.tab4 spec_SpotOk.bits4 (fun HT_ HW_=>?_)
      generalize w18.drew=w19 at BK193 BK194 HB HR197_3 hx197_0 hx197_1 hx197_2 hx197_3 hx197_4 hx197_5 hHeld ⊢
      refine pure_ (i:=0) (N:=some 13) (v:=?_) (a':=?_) #[true,false,false,false,false,false,false,false,false,false,false,false,false,false,false,false,false,false,false] rfl rfl (any_of HT_.out (by kernel_rfl)) (fun _ _ _ h=>h) (Or.inl ⟨by rfl,?_⟩) ?_ ?_
      rotate_left
      ·intro w'
       go_simp
       with_reducible rfl
      rotate_left
      ·simp only [Act.put,List.setIfInBounds_toArray,List.set_cons_zero,List.set_cons_succ,i64_w,i32_w]
       rfl
      refine pure_ (i:=1) (N:=some 14) (v:=?_) (a':=?_) #[true,true,false,false,false,false,false,false,false,false,false,false,false,false,false,false,false,false,false] rfl rfl (any_of HT_.out (by kernel_rfl)) (fun _ _ _ h=>h) (Or.inl ⟨by rfl,?_⟩) ?_ ?_
      rotate_left
      ·intro w'
       go_simp
       with_reducible rfl
      rotate_left
      ·simp only [Act.put,List.setIfInBounds_toArray,List.set_cons_zero,List.set_cons_succ,i64_w,i32_w]
       rfl
      refine pure_ (i:=2) (N:=some 15) (v:=?_) (a':=?_) #[true,true,true,false,false,false,false,false,false,false,false,false,false,false,false,false,false,false,false] rfl rfl (any_of HT_.out (by kernel_rfl)) (fun _ _ _ h=>h) (Or.inl ⟨by rfl,?_⟩) ?_ ?_
      rotate_left
      ·intro w'
       go_simp
       with_reducible rfl
      rotate_left
      ·simp only [Act.put,List.setIfInBounds_toArray,List.set_cons_zero,List.set_cons_succ,i64_w,i32_w]
       rfl
      refine pure_ (i:=3) (N:=some 16) (v:=?_) (a':=?_) #[true,true,true,true,false,false,false,false,false,false,false,false,false,false,false,false,false,false,false] rfl rfl (any_of HT_.out (by kernel_rfl)) (fun _ _ _ h=>h) (Or.inl ⟨by rfl,?_⟩) ?_ ?_
      rotate_left
      ·intro w'
       go_simp
       with_reducible rfl
      rotate_left
      ·simp only [Act.put,List.setIfInBounds_toArray,List.set_cons_zero,List.set_cons_succ,i64_w,i32_w]
       rfl
      refine take_ (i:=4) (N:=some 17) (v:=?_) (a':=?_) #[true,true,true,true,true,false,false,false,false,false,false,false,false,false,false,false,false,false,false] rfl rfl (take_ofW HT_.out HW_.out (by kernel_rfl)) (fun _ _ _ h=>h) (Or.inl ⟨by rfl,?_⟩) hHeld ?_ ?_
      rotate_left
      ·rintro w' ⟨s0,s1,s2,s3,s4,s5,s6,s7,s8⟩
       go_simp
       with_reducible rfl
      rotate_left
      ·simp only [Act.put,List.setIfInBounds_toArray,List.set_cons_zero,List.set_cons_succ,i64_w,i32_w]
       rfl
      refine pure_ (i:=5) (N:=some 18) (v:=?_) (a':=?_) #[true,true,true,true,true,true,false,false,false,false,false,false,false,false,false,false,false,false,false] rfl rfl (any_of HT_.out (by kernel_rfl)) (fun _ _ _ h=>h) (Or.inl ⟨by rfl,?_⟩) ?_ ?_
      rotate_left
      ·intro w'
       go_simp
       with_reducible rfl
      rotate_left
      ·simp only [Act.put,List.setIfInBounds_toArray,List.set_cons_zero,List.set_cons_succ,i64_w,i32_w]
       rfl
      refine pure_ (i:=6) (N:=some 19) (v:=?_) (a':=?_) #[true,true,true,true,true,true,true,false,false,false,false,false,false,false,false,false,false,false,false] rfl rfl (any_of HT_.out (by kernel_rfl)) (fun _ _ _ h=>h) (Or.inl ⟨by rfl,?_⟩) ?_ ?_
      rotate_left
      ·intro w'
       go_simp
       with_reducible rfl
      rotate_left
      ·simp only [Act.put,List.setIfInBounds_toArray,List.set_cons_zero,List.set_cons_succ,i64_w,i32_w]
       rfl
      refine pure_ (i:=7) (N:=some 20) (v:=?_) (a':=?_) #[true,true,true,true,true,true,true,true,false,false,false,false,false,false,false,false,false,false,false] rfl rfl (any_of HT_.out (by kernel_rfl)) (fun _ _ _ h=>h) (Or.inl ⟨by rfl,?_⟩) ?_ ?_
      rotate_left
      ·intro w'
       go_simp
       with_reducible rfl
      rotate_left
      ·simp only [Act.put,List.setIfInBounds_toArray,List.set_cons_zero,List.set_cons_succ,i64_w,i32_w]
       rfl
      refine pure_ (i:=8) (N:=some 21) (v:=?_) (a':=?_) #[true,true,true,true,true,true,true,true,true,false,false,false,false,false,false,false,false,false,false] rfl rfl (any_of HT_.out (by kernel_rfl)) (fun _ _ _ h=>h) (Or.inl ⟨by rfl,?_⟩) ?_ ?_
      rotate_left
      ·intro w'
       go_simp
       with_reducible rfl
      rotate_left
      ·simp only [Act.put,List.setIfInBounds_toArray,List.set_cons_zero,List.set_cons_succ,i64_w,i32_w]
       rfl
      refine pure_ (i:=10) (N:=some 23) (v:=?_) (a':=?_) #[true,true,true,true,true,true,true,true,true,false,true,false,false,false,false,false,false,false,false] rfl rfl (any_of HT_.out (by kernel_rfl)) (fun _ _ _ h=>h) (Or.inl ⟨by rfl,?_⟩) ?_ ?_
      rotate_left
      ·intro w'
       go_simp
       with_reducible rfl
      rotate_left
      ·simp only [Act.put,List.setIfInBounds_toArray,List.set_cons_zero,List.set_cons_succ,i64_w,i32_w]
       rfl
      refine pure_ (i:=12) (N:=some 25) (v:=?_) (a':=?_) #[true,true,true,true,true,true,true,true,true,false,true,false,true,false,false,false,false,false,false] rfl rfl (any_of HT_.out (by kernel_rfl)) (fun _ _ _ h=>h) (Or.inl ⟨by rfl,?_⟩) ?_ ?_
      rotate_left
      ·intro w'
       go_simp
       with_reducible rfl
      rotate_left
      ·simp only [Act.put,List.setIfInBounds_toArray,List.set_cons_zero,List.set_cons_succ,i64_w,i32_w]
       rfl
      refine take_ (i:=9) (N:=some 22) (v:=?_) (a':=?_) #[true,true,true,true,true,true,true,true,true,true,true,false,true,false,false,false,false,false,false] rfl rfl (take_ofW HT_.out HW_.out (by kernel_rfl)) (fun _ _ _ h=>h) (Or.inl ⟨by rfl,?_⟩) hHeld ?_ ?_
      rotate_left
      ·rintro w' ⟨s0,s1,s2,s3,s4,s5,s6,s7,s8⟩
       go_simp
       with_reducible rfl
      rotate_left
      ·simp only [Act.put,List.setIfInBounds_toArray,List.set_cons_zero,List.set_cons_succ,i64_w,i32_w]
       rfl
      refine take_ (i:=11) (N:=some 24) (v:=?_) (a':=?_) #[true,true,true,true,true,true,true,true,true,true,true,true,true,false,false,false,false,false,false] rfl rfl (take_ofW HT_.out HW_.out (by kernel_rfl)) (fun _ _ _ h=>h) (Or.inl ⟨by rfl,?_⟩) hHeld ?_ ?_
      rotate_left
      ·rintro w' ⟨s0,s1,s2,s3,s4,s5,s6,s7,s8⟩
       go_simp
       with_reducible rfl
      rotate_left
      ·simp only [Act.put,List.setIfInBounds_toArray,List.set_cons_zero,List.set_cons_succ,i64_w,i32_w]
       rfl
      refine pure_ (i:=13) (N:=some 26) (v:=?_) (a':=?_) #[true,true,true,true,true,true,true,true,true,true,true,true,true,true,false,false,false,false,false] rfl rfl (any_of HT_.out (by kernel_rfl)) (fun _ _ _ h=>h) (Or.inl ⟨by rfl,?_⟩) ?_ ?_
      rotate_left
      ·intro w'
       go_simp
       with_reducible rfl
      rotate_left
      ·simp only [Act.put,List.setIfInBounds_toArray,List.set_cons_zero,List.set_cons_succ,i64_w,i32_w]
       rfl
      refine take_ (i:=14) (N:=some 27) (v:=?_) (a':=?_) #[true,true,true,true,true,true,true,true,true,true,true,true,true,true,true,false,false,false,false] rfl rfl (take_ofW HT_.out HW_.out (by kernel_rfl)) (fun _ _ _ h=>h) (Or.inl ⟨by rfl,?_⟩) hHeld ?_ ?_
      rotate_left
      ·rintro w' ⟨s0,s1,s2,s3,s4,s5,s6,s7,s8⟩
       go_simp
       with_reducible rfl
      rotate_left
      ·simp only [Act.put,List.setIfInBounds_toArray,List.set_cons_zero,List.set_cons_succ,i64_w,i32_w]
       rfl
      refine one_ (i:=15) (N:=some 28) #[true,true,true,true,true,true,true,true,true,true,true,true,true,true,true,true,false,false,false] rfl rfl (one_of HT_.out (by kernel_rfl)) (by decide) (fun K hK=>?_)
      refine goes_ Try.func29 (by kernel_rfl) rfl #[.agg #[.int .i64 ((rd_T59 l0_0 t196).f0),.int .i64 ((rd_T59 l0_0 t196).f1),.string ((rd_T59 l0_0 t196).f2),.slice A197_3 ((rd_T59 l0_0 t196).f3).length c197_3,.string ((rd_T59 l0_0 t196).f4),.int .i64 ((rd_T59 l0_0 t196).f5)]] (by rfl) rfl rfl (by (try simp only [List.map_toArray,List.map_cons,List.map_nil]);first|done|rfl|(simp only [List.length_drop,List.length_take];rfl)) ?_
      with_reducible refine (spec_l5Most.calls ((rd_T59 l0_0 t196).f0) ((rd_T59 l0_0 t196).f1) ((rd_T59 l0_0 t196).f2) _ _ ((rd_T59 l0_0 t196).f3) ((rd_T59 l0_0 t196).f4) ((rd_T59 l0_0 t196).f5) t198 _ ?side1 ?side2 A10.out).mono ?_
      (case side1=>repeat (first|exact (Kd.C_below HR197_3.out HB.out)|(with_reducible refine Kd.C_alloc ?_ _)|(with_reducible refine Kd.C_drewN ?_ _)|(with_reducible refine Kd.C_drew ?_)))
      (case side2=>exact HC197_3.out)
      rintro e w20 ⟨rfl,hb⟩
      refine ⟨_,rfl,?_⟩
      have n0_:=Aside0.mk (blk_below (g:=gb193) (o:=.cells #[.slice (some ad197) l0_0.length c0_0] 31 (0,0)) (by (with_reducible repeat (first|refine blk_drewN ?_ _|refine blk_drew ?_|refine blk_alloc ?_ _));exact BK193.out) hb)
      have n1_:=Aside0.mk (blk_below (g:=gb194) (o:=.cells #[.int .i64 a1_0,.int .i64 a1_1] 33 (0,0)) (by (with_reducible repeat (first|refine blk_drewN ?_ _|refine blk_drew ?_|refine blk_alloc ?_ _));exact BK194.out) hb)
      have n2_:=Aside0.mk (below_step (by repeat (first|exact HB.out|apply below_alloc|apply pw_below_drewN|apply below_drew1|refine below_set ?_ GE193.out|refine below_set ?_ GE194.out)) hb)
      clear BK193
      clear BK194
      clear HB
      have BK193:=n0_
      have BK194:=n1_
      have HB:=n2_
      clear n0_ n1_ n2_
      try clear hb
      try clear hb2
      try clear hk
      try clear hi
      refine hK.out _ _ ⟨(blk_cell BK194.out 0).trans rfl,(blk_cell BK194.out 1).trans rfl,(blk_cell BK193.out 0).trans rfl,((HB.out.cell (World.block_lt_of_cell? w _ hw197_0)).trans hw197_0),((HB.out.cell (World.block_lt_of_cell? w _ hw197_1)).trans hw197_1),((HB.out.cell (World.block_lt_of_cell? w _ hw197_2)).trans hw197_2),((HB.out.cell (World.block_lt_of_cell? w _ hw197_3)).trans hw197_3),((HB.out.cell (World.block_lt_of_cell? w _ hw197_4)).trans hw197_4),((HB.out.cell (World.block_lt_of_cell? w _ hw197_5)).trans hw197_5)⟩ (fun hHeld=>?_)
      clear hK K
      refine norm_ (a':=?_) ?_ ?_
      rotate_left
      ·show Act.put _ (some 28) _=_
       simp only [Act.put,List.setIfInBounds_toArray,List.set_cons_zero,List.set_cons_succ,i64_w,i32_w]
       rfl
      refine pure_ (i:=16) (N:=some 29) (v:=?_) (a':=?_) #[true,true,true,true,true,true,true,true,true,true,true,true,true,true,true,true,true,false,false] rfl rfl (any_of HT_.out (by kernel_rfl)) (fun _ _ _ h=>h) (Or.inl ⟨by rfl,?_⟩) ?_ ?_
      rotate_left
      ·intro w'
       go_simp
       with_reducible rfl
      rotate_left
      ·simp only [Act.put,List.setIfInBounds_toArray,List.set_cons_zero,List.set_cons_succ,i64_w,i32_w]
       rfl
      refine pure_ (i:=17) (N:=some 30) (v:=?_) (a':=?_) #[true,true,true,true,true,true,true,true,true,true,true,true,true,true,true,true,true,true,false] rfl rfl (any_of HT_.out (by kernel_rfl)) (fun _ _ _ h=>h) (Or.inl ⟨by rfl,?_⟩) ?_ ?_
      rotate_left
      ·intro w'
       go_simp
       with_reducible rfl
      rotate_left
      ·simp only [Act.put,List.setIfInBounds_toArray,List.set_cons_zero,List.set_cons_succ,i64_w,i32_w]
       rfl
      refine pure_ (i:=18) (N:=some 4) (v:=?_) (a':=?_) #[true,true,true,true,true,true,true,true,true,true,true,true,true,true,true,true,true,true,true] rfl rfl (any_of HT_.out (by kernel_rfl)) (fun _ _ _ h=>h) (Or.inl ⟨by rfl,?_⟩) ?_ ?_
      rotate_left
      ·intro w'
       go_simp
       with_reducible rfl
      rotate_left
      ·simp only [Act.put,List.setIfInBounds_toArray,List.set_cons_zero,List.set_cons_succ,i64_w,i32_w]
       rfl
      refine done_ (done_of HT_.out (by kernel_rfl)) ?_
      try go_wp2
      go_ret
      exact ⟨by first|rfl|(simp [errW_none,errW_some]<;>rfl)|(simp [*,errW_none,errW_some]<;>rfl),by repeat (first|exact HB.out|apply below_alloc|apply pw_below_drewN|apply below_drew1|refine below_set ?_ GE193.out|refine below_set ?_ GE194.out)⟩
     ·rw [if_neg c9] at H
      exact absurd H (by simp)
    ·rw [if_neg c8] at H
     exact absurd H (by simp)
   ·rw [if_neg c7] at H
    have c7b0:decide (0≤a1_1)=false:=decide_eq_false c7
    clear c7
    obtain rfl:=Option.some.inj H
    go_enter Try.func15,Try.ntmps15
    try go_wp2_with (first|((with_reducible refine gate_dst (N:=2) rfl ?_);refine box_event rfl (N:=2) rfl (cs:=#[.slice A0_0 l0_0.length c0_0]) (t:=31) ?hr ?_;(case hr=>first|(go_simp;done)|(go_simp;rfl));intro gb193 hg w21 hbox hb;have n0_:=Aside0.mk (below_step (by repeat (first|exact HB.out|apply below_alloc|apply pw_below_drewN|apply below_drew1)) hb);have n1_:=Aside0.mk (hbox);have n2_:=Aside0.mk ((by rw [hg];exact (below_size (by repeat (first|exact HB.out|apply below_alloc|apply pw_below_drewN|apply below_drew1))):w.heap.size≤gb193));have n3_:=Aside0.mk ((by rw [hg];exact (below_size (by repeat (first|exact HB.out|apply below_alloc|apply pw_below_drewN|apply below_drew1))):w.heap.size≤gb193));clear HB;have HB:=n0_;have BK193:=n1_;have GW193:=n2_;have GE193:=n3_;clear n0_ n1_ n2_ n3_;clear hb hbox hg)|((with_reducible refine gate_dst (N:=3) rfl ?_);refine box_event rfl (N:=3) rfl (cs:=#[.int .i64 a1_0,.int .i64 a1_1]) (t:=33) ?hr ?_;(case hr=>first|(go_simp;done)|(go_simp;rfl));intro gb194 hg w22 hbox hb;have n0_:=Aside0.mk (blk_below (g:=gb193) (o:=.cells #[.slice A0_0 l0_0.length c0_0] 31 (0,0)) (by (with_reducible repeat (first|refine blk_drewN ?_ _|refine blk_drew ?_|refine blk_alloc ?_ _));exact BK193.out) hb);have n1_:=Aside0.mk (below_step (by repeat (first|exact HB.out|apply below_alloc|apply pw_below_drewN|apply below_drew1|refine below_set ?_ GE193.out)) hb);have n2_:=Aside0.mk (hbox);have n3_:=Aside0.mk ((by rw [hg];exact (below_size (by repeat (first|exact HB.out|apply below_alloc|apply pw_below_drewN|apply below_drew1|refine below_set ?_ GE193.out))):w.heap.size≤gb194));have n4_:=Aside0.mk ((by rw [hg];exact (below_size (by repeat (first|exact HB.out|apply below_alloc|apply pw_below_drewN|apply below_drew1|refine below_set ?_ GE193.out))):w.heap.size≤gb194));have n5_:=Aside0.mk ((by rw [hg];exact Nat.ne_of_lt (blk_lt (g:=gb193) (o:=.cells #[.slice A0_0 l0_0.length c0_0] 31 (0,0)) (by (with_reducible repeat (first|refine blk_drewN ?_ _|refine blk_drew ?_|refine blk_alloc ?_ _));exact BK193.out)):gb193≠gb194));have n6_:=Aside0.mk ((by rw [hg];exact Nat.ne_of_gt (blk_lt (g:=gb193) (o:=.cells #[.slice A0_0 l0_0.length c0_0] 31 (0,0)) (by (with_reducible repeat (first|refine blk_drewN ?_ _|refine blk_drew ?_|refine blk_alloc ?_ _));exact BK193.out)):gb194≠gb193));clear BK193;clear HB;have BK193:=n0_;have HB:=n1_;have BK194:=n2_;have GW194:=n3_;have GE194:=n4_;have NB193_194:=n5_;have NB194_193:=n6_;clear n0_ n1_ n2_ n3_ n4_ n5_ n6_;clear hb hbox hg;have hnb23:=NB193_194.out;have hnc23:=NB194_193.out;have hcz24_0:w22.cell? ⟨gb193,0,none⟩=some (.slice A0_0 l0_0.length c0_0):=(blk_cell BK193.out 0).trans rfl;have hfz24_0:=blk_frozen BK193.out 0)|((with_reducible refine gate_callee (f:=27) rfl ?_);refine goesL_ (some 7) rfl rfl Try.func27 (by kernel_rfl) rfl #[.agg #[.slice A0_0 l0_0.length c0_0]] rfl (by (try simp only [List.map_toArray,List.map_cons,List.map_nil]);first|done|rfl|(simp only [List.length_drop,List.length_take];rfl)) ?_;(with_reducible refine (spec_TreeOk.calls k _ _ l0_0 true _ ?side1 ?side2 A3.out).mono ?_);(case side1=>repeat (first|exact (Kd.C_below HR0_0.out HB.out)|(with_reducible refine Kd.C_alloc ?_ _)|(with_reducible refine Kd.C_drewN ?_ _)|(with_reducible refine Kd.C_drew ?_)));(case side2=>exact HC0_0.out);rintro e w25 ⟨rfl,hb⟩;refine ⟨_,rfl,?_⟩;have n0_:=Aside0.mk (blk_below (g:=gb193) (o:=.cells #[.slice A0_0 l0_0.length c0_0] 31 (0,0)) (by (with_reducible repeat (first|refine blk_drewN ?_ _|refine blk_drew ?_|refine blk_alloc ?_ _));exact BK193.out) hb);have n1_:=Aside0.mk (blk_below (g:=gb194) (o:=.cells #[.int .i64 a1_0,.int .i64 a1_1] 33 (0,0)) (by (with_reducible repeat (first|refine blk_drewN ?_ _|refine blk_drew ?_|refine blk_alloc ?_ _));exact BK194.out) hb);have n2_:=Aside0.mk (below_step (by repeat (first|exact HB.out|apply below_alloc|apply pw_below_drewN|apply below_drew1|refine below_set ?_ GE193.out|refine below_set ?_ GE194.out)) hb);clear BK193;clear BK194;clear HB;have BK193:=n0_;have BK194:=n1_;have HB:=n2_;clear n0_ n1_ n2_;(try clear hb);(try clear hb2);(try clear hk);(try clear hi);have hcz26_0:w25.cell? ⟨gb193,0,none⟩=some (.slice A0_0 l0_0.length c0_0):=(blk_cell BK193.out 0).trans rfl;have hfz26_0:=blk_frozen BK193.out 0;have hcz27_0:w25.cell? ⟨gb194,0,none⟩=some (.int .i64 a1_0):=(blk_cell BK194.out 0).trans rfl;have hcz27_1:w25.cell? ⟨gb194,1,none⟩=some (.int .i64 a1_1):=(blk_cell BK194.out 1).trans rfl;have hfz27_0:=blk_frozen BK194.out 0;have hfz27_1:=blk_frozen BK194.out 1)|((with_reducible refine gate_callee (f:=28) rfl ?_);refine goesL_ (some 12) rfl rfl Try.func28 (by kernel_rfl) rfl #[.agg #[.slice A0_0 l0_0.length c0_0],.int .i64 a1_0] rfl (by (try simp only [List.map_toArray,List.map_cons,List.map_nil]);first|done|rfl|(simp only [List.length_drop,List.length_take];rfl)) ?_;(with_reducible refine (spec_l4At.calls k _ _ l0_0 a1_0 t196 _ ?side1 ?side2 A5.out).mono ?_);(case side1=>repeat (first|exact (Kd.C_below HR0_0.out HB.out)|(with_reducible refine Kd.C_alloc ?_ _)|(with_reducible refine Kd.C_drewN ?_ _)|(with_reducible refine Kd.C_drew ?_)));(case side2=>exact HC0_0.out);rintro e w28 ⟨rfl,hb⟩;refine ⟨_,rfl,?_⟩;have n0_:=Aside0.mk (blk_below (g:=gb193) (o:=.cells #[.slice A0_0 l0_0.length c0_0] 31 (0,0)) (by (with_reducible repeat (first|refine blk_drewN ?_ _|refine blk_drew ?_|refine blk_alloc ?_ _));exact BK193.out) hb);have n1_:=Aside0.mk (blk_below (g:=gb194) (o:=.cells #[.int .i64 a1_0,.int .i64 a1_1] 33 (0,0)) (by (with_reducible repeat (first|refine blk_drewN ?_ _|refine blk_drew ?_|refine blk_alloc ?_ _));exact BK194.out) hb);have n2_:=Aside0.mk (below_step (by repeat (first|exact HB.out|apply below_alloc|apply pw_below_drewN|apply below_drew1|refine below_set ?_ GE193.out|refine below_set ?_ GE194.out)) hb);clear BK193;clear BK194;clear HB;have BK193:=n0_;have BK194:=n1_;have HB:=n2_;clear n0_ n1_ n2_;(try clear hb);(try clear hb2);(try clear hk);(try clear hi)))
    have n0_:=Aside0.mk (blk_drew BK193.out)
    have n1_:=Aside0.mk (blk_drew BK194.out)
    have n2_:=Aside0.mk (below_drew1 HB.out)
    clear BK193
    clear BK194
    clear HB
    have BK193:=n0_
    have BK194:=n1_
    have HB:=n2_
    clear n0_ n1_ n2_
    refine start_ (n:=19) (S:=fun w'=>w'.cell? ⟨gb194,0,none⟩=some (.int .i64 a1_0)∧w'.cell? ⟨gb194,1,none⟩=some (.int .i64 a1_1)) (ds:=[]) #[false,false,false,false,false,false,false,false,false,false,false,false,false,false,false,false,false,false,false] (by kernel_rfl) rfl rfl ⟨(blk_cell BK194.out 0).trans rfl,(blk_cell BK194.out 1).trans rfl⟩ (fun hHeld=>?_);refine with_tabW spec_SpotOk.tab4 spec_SpotOk.bits4 (fun HT_ HW_=>?_)
    generalize w28.drew=w29 at BK193 BK194 HB hHeld ⊢
    refine pure_ (i:=0) (N:=some 13) (v:=?_) (a':=?_) #[true,false,false,false,false,false,false,false,false,false,false,false,false,false,false,false,false,false,false] rfl rfl (any_of HT_.out (by kernel_rfl)) (fun _ _ _ h=>h) (Or.inl ⟨by rfl,?_⟩) ?_ ?_
    rotate_left
    ·intro w'
     go_simp
     with_reducible rfl
    rotate_left
    ·simp only [Act.put,List.setIfInBounds_toArray,List.set_cons_zero,List.set_cons_succ,i64_w,i32_w]
     rfl
    refine pure_ (i:=1) (N:=some 14) (v:=?_) (a':=?_) #[true,true,false,false,false,false,false,false,false,false,false,false,false,false,false,false,false,false,false] rfl rfl (any_of HT_.out (by kernel_rfl)) (fun _ _ _ h=>h) (Or.inl ⟨by rfl,?_⟩) ?_ ?_
    rotate_left
    ·intro w'
     go_simp
     with_reducible rfl
    rotate_left
    ·simp only [Act.put,List.setIfInBounds_toArray,List.set_cons_zero,List.set_cons_succ,i64_w,i32_w]
     rfl
    refine pure_ (i:=2) (N:=some 15) (v:=?_) (a':=?_) #[true,true,true,false,false,false,false,false,false,false,false,false,false,false,false,false,false,false,false] rfl rfl (any_of HT_.out (by kernel_rfl)) (fun _ _ _ h=>h) (Or.inl ⟨by rfl,?_⟩) ?_ ?_
    rotate_left
    ·intro w'
     go_simp
     with_reducible rfl
    rotate_left
    ·simp only [Act.put,List.setIfInBounds_toArray,List.set_cons_zero,List.set_cons_succ,i64_w,i32_w]
     rfl
    refine pure_ (i:=3) (N:=some 16) (v:=?_) (a':=?_) #[true,true,true,true,false,false,false,false,false,false,false,false,false,false,false,false,false,false,false] rfl rfl (any_of HT_.out (by kernel_rfl)) (fun _ _ _ h=>h) (Or.inl ⟨by rfl,?_⟩) ?_ ?_
    rotate_left
    ·intro w'
     go_simp
     with_reducible rfl
    rotate_left
    ·simp only [Act.put,List.setIfInBounds_toArray,List.set_cons_zero,List.set_cons_succ,i64_w,i32_w]
     rfl
    refine take_ (i:=4) (N:=some 17) (v:=?_) (a':=?_) #[true,true,true,true,true,false,false,false,false,false,false,false,false,false,false,false,false,false,false] rfl rfl (take_ofW HT_.out HW_.out (by kernel_rfl)) (fun _ _ _ h=>h) (Or.inl ⟨by rfl,?_⟩) hHeld ?_ ?_
    rotate_left
    ·rintro w' ⟨s0,s1⟩
     go_simp
     with_reducible rfl
    rotate_left
    ·simp only [Act.put,List.setIfInBounds_toArray,List.set_cons_zero,List.set_cons_succ,i64_w,i32_w]
     rfl
    refine pure_ (i:=5) (N:=some 18) (v:=?_) (a':=?_) #[true,true,true,true,true,true,false,false,false,false,false,false,false,false,false,false,false,false,false] rfl rfl (any_of HT_.out (by kernel_rfl)) (fun _ _ _ h=>h) (Or.inl ⟨by rfl,?_⟩) ?_ ?_
    rotate_left
    ·intro w'
     go_simp
     with_reducible rfl
    rotate_left
    ·simp only [Act.put,List.setIfInBounds_toArray,List.set_cons_zero,List.set_cons_succ,i64_w,i32_w]
     rfl
    refine pure_ (i:=6) (N:=some 19) (v:=?_) (a':=?_) #[true,true,true,true,true,true,true,false,false,false,false,false,false,false,false,false,false,false,false] rfl rfl (any_of HT_.out (by kernel_rfl)) (fun _ _ _ h=>h) (Or.inl ⟨by rfl,?_⟩) ?_ ?_
    rotate_left
    ·intro w'
     go_simp
     with_reducible rfl
    rotate_left
    ·simp only [Act.put,List.setIfInBounds_toArray,List.set_cons_zero,List.set_cons_succ,i64_w,i32_w]
     rfl
    refine pure_ (i:=7) (N:=some 20) (v:=?_) (a':=?_) #[true,true,true,true,true,true,true,true,false,false,false,false,false,false,false,false,false,false,false] rfl rfl (any_of HT_.out (by kernel_rfl)) (fun _ _ _ h=>h) (Or.inl ⟨by rfl,?_⟩) ?_ ?_
    rotate_left
    ·intro w'
     go_simp
     with_reducible rfl
    rotate_left
    ·simp only [Act.put,List.setIfInBounds_toArray,List.set_cons_zero,List.set_cons_succ,i64_w,i32_w]
     rfl
    refine pure_ (i:=8) (N:=some 21) (v:=undef) (a':=?_) #[true,true,true,true,true,true,true,true,true,false,false,false,false,false,false,false,false,false,false] rfl rfl (any_of HT_.out (by kernel_rfl)) (fun _ _ _ h=>h) (Or.inr ⟨by rfl,rfl⟩) ?_ ?_
    rotate_left
    ·simp only [Act.put,List.setIfInBounds_toArray,List.set_cons_zero,List.set_cons_succ,i64_w,i32_w]
     rfl
    refine pure_ (i:=9) (N:=some 22) (v:=undef) (a':=?_) #[true,true,true,true,true,true,true,true,true,true,false,false,false,false,false,false,false,false,false] rfl rfl (any_of HT_.out (by kernel_rfl)) (fun _ _ _ h=>h) (Or.inr ⟨by rfl,rfl⟩) ?_ ?_
    rotate_left
    ·simp only [Act.put,List.setIfInBounds_toArray,List.set_cons_zero,List.set_cons_succ,i64_w,i32_w]
     rfl
    refine pure_ (i:=10) (N:=some 23) (v:=undef) (a':=?_) #[true,true,true,true,true,true,true,true,true,true,true,false,false,false,false,false,false,false,false] rfl rfl (any_of HT_.out (by kernel_rfl)) (fun _ _ _ h=>h) (Or.inr ⟨by rfl,rfl⟩) ?_ ?_
    rotate_left
    ·simp only [Act.put,List.setIfInBounds_toArray,List.set_cons_zero,List.set_cons_succ,i64_w,i32_w]
     rfl
    refine pure_ (i:=11) (N:=some 24) (v:=undef) (a':=?_) #[true,true,true,true,true,true,true,true,true,true,true,true,false,false,false,false,false,false,false] rfl rfl (any_of HT_.out (by kernel_rfl)) (fun _ _ _ h=>h) (Or.inr ⟨by rfl,rfl⟩) ?_ ?_
    rotate_left
    ·simp only [Act.put,List.setIfInBounds_toArray,List.set_cons_zero,List.set_cons_succ,i64_w,i32_w]
     rfl
    refine pure_ (i:=12) (N:=some 25) (v:=undef) (a':=?_) #[true,true,true,true,true,true,true,true,true,true,true,true,true,false,false,false,false,false,false] rfl rfl (any_of HT_.out (by kernel_rfl)) (fun _ _ _ h=>h) (Or.inr ⟨by rfl,rfl⟩) ?_ ?_
    rotate_left
    ·simp only [Act.put,List.setIfInBounds_toArray,List.set_cons_zero,List.set_cons_succ,i64_w,i32_w]
     rfl
    refine pure_ (i:=13) (N:=some 26) (v:=undef) (a':=?_) #[true,true,true,true,true,true,true,true,true,true,true,true,true,true,false,false,false,false,false] rfl rfl (any_of HT_.out (by kernel_rfl)) (fun _ _ _ h=>h) (Or.inr ⟨by rfl,rfl⟩) ?_ ?_
    rotate_left
    ·simp only [Act.put,List.setIfInBounds_toArray,List.set_cons_zero,List.set_cons_succ,i64_w,i32_w]
     rfl
    refine pure_ (i:=14) (N:=some 27) (v:=undef) (a':=?_) #[true,true,true,true,true,true,true,true,true,true,true,true,true,true,true,false,false,false,false] rfl rfl (any_of HT_.out (by kernel_rfl)) (fun _ _ _ h=>h) (Or.inr ⟨by rfl,rfl⟩) ?_ ?_
    rotate_left
    ·simp only [Act.put,List.setIfInBounds_toArray,List.set_cons_zero,List.set_cons_succ,i64_w,i32_w]
     rfl
    refine pure_ (i:=15) (N:=some 28) (v:=undef) (a':=?_) #[true,true,true,true,true,true,true,true,true,true,true,true,true,true,true,true,false,false,false] rfl rfl (any_of HT_.out (by kernel_rfl)) (fun _ _ _ h=>h) (Or.inr ⟨by rfl,rfl⟩) ?_ ?_
    rotate_left
    ·simp only [Act.put,List.setIfInBounds_toArray,List.set_cons_zero,List.set_cons_succ,i64_w,i32_w]
     rfl
    refine pure_ (i:=16) (N:=some 29) (v:=undef) (a':=?_) #[true,true,true,true,true,true,true,true,true,true,true,true,true,true,true,true,true,false,false] rfl rfl (any_of HT_.out (by kernel_rfl)) (fun _ _ _ h=>h) (Or.inr ⟨by rfl,rfl⟩) ?_ ?_
    rotate_left
    ·simp only [Act.put,List.setIfInBounds_toArray,List.set_cons_zero,List.set_cons_succ,i64_w,i32_w]
     rfl
    refine pure_ (i:=17) (N:=some 30) (v:=?_) (a':=?_) #[true,true,true,true,true,true,true,true,true,true,true,true,true,true,true,true,true,true,false] rfl rfl (any_of HT_.out (by kernel_rfl)) (fun _ _ _ h=>h) (Or.inl ⟨by rfl,?_⟩) ?_ ?_
    rotate_left
    ·intro w'
     go_simp
     with_reducible rfl
    rotate_left
    ·simp only [Act.put,List.setIfInBounds_toArray,List.set_cons_zero,List.set_cons_succ,i64_w,i32_w]
     rfl
    refine pure_ (i:=18) (N:=some 4) (v:=?_) (a':=?_) #[true,true,true,true,true,true,true,true,true,true,true,true,true,true,true,true,true,true,true] rfl rfl (any_of HT_.out (by kernel_rfl)) (fun _ _ _ h=>h) (Or.inl ⟨by rfl,?_⟩) ?_ ?_
    rotate_left
    ·intro w'
     go_simp
     with_reducible rfl
    rotate_left
    ·simp only [Act.put,List.setIfInBounds_toArray,List.set_cons_zero,List.set_cons_succ,i64_w,i32_w]
     rfl
    refine done_ (done_of HT_.out (by kernel_rfl)) ?_
    try go_wp2
    go_ret
    exact ⟨by first|rfl|(simp [errW_none,errW_some]<;>rfl)|(simp [*,errW_none,errW_some]<;>rfl),by repeat (first|exact HB.out|apply below_alloc|apply pw_below_drewN|apply below_drew1|refine below_set ?_ GE193.out|refine below_set ?_ GE194.out)⟩
  ·rw [if_neg c6] at H
   have c6b0:decide (0≤t196)=false:=decide_eq_false c6
   clear c6
   obtain rfl:=Option.some.inj H
   go_enter Try.func15,Try.ntmps15
   try go_wp2_with (first|((with_reducible refine gate_dst (N:=2) rfl ?_);refine box_event rfl (N:=2) rfl (cs:=#[.slice A0_0 l0_0.length c0_0]) (t:=31) ?hr ?_;(case hr=>first|(go_simp;done)|(go_simp;rfl));intro gb193 hg w30 hbox hb;have n0_:=Aside0.mk (below_step (by repeat (first|exact HB.out|apply below_alloc|apply pw_below_drewN|apply below_drew1)) hb);have n1_:=Aside0.mk (hbox);have n2_:=Aside0.mk ((by rw [hg];exact (below_size (by repeat (first|exact HB.out|apply below_alloc|apply pw_below_drewN|apply below_drew1))):w.heap.size≤gb193));have n3_:=Aside0.mk ((by rw [hg];exact (below_size (by repeat (first|exact HB.out|apply below_alloc|apply pw_below_drewN|apply below_drew1))):w.heap.size≤gb193));clear HB;have HB:=n0_;have BK193:=n1_;have GW193:=n2_;have GE193:=n3_;clear n0_ n1_ n2_ n3_;clear hb hbox hg)|((with_reducible refine gate_dst (N:=3) rfl ?_);refine box_event rfl (N:=3) rfl (cs:=#[.int .i64 a1_0,.int .i64 a1_1]) (t:=33) ?hr ?_;(case hr=>first|(go_simp;done)|(go_simp;rfl));intro gb194 hg w31 hbox hb;have n0_:=Aside0.mk (blk_below (g:=gb193) (o:=.cells #[.slice A0_0 l0_0.length c0_0] 31 (0,0)) (by (with_reducible repeat (first|refine blk_drewN ?_ _|refine blk_drew ?_|refine blk_alloc ?_ _));exact BK193.out) hb);have n1_:=Aside0.mk (below_step (by repeat (first|exact HB.out|apply below_alloc|apply pw_below_drewN|apply below_drew1|refine below_set ?_ GE193.out)) hb);have n2_:=Aside0.mk (hbox);have n3_:=Aside0.mk ((by rw [hg];exact (below_size (by repeat (first|exact HB.out|apply below_alloc|apply pw_below_drewN|apply below_drew1|refine below_set ?_ GE193.out))):w.heap.size≤gb194));have n4_:=Aside0.mk ((by rw [hg];exact (below_size (by repeat (first|exact HB.out|apply below_alloc|apply pw_below_drewN|apply below_drew1|refine below_set ?_ GE193.out))):w.heap.size≤gb194));have n5_:=Aside0.mk ((by rw [hg];exact Nat.ne_of_lt (blk_lt (g:=gb193) (o:=.cells #[.slice A0_0 l0_0.length c0_0] 31 (0,0)) (by (with_reducible repeat (first|refine blk_drewN ?_ _|refine blk_drew ?_|refine blk_alloc ?_ _));exact BK193.out)):gb193≠gb194));have n6_:=Aside0.mk ((by rw [hg];exact Nat.ne_of_gt (blk_lt (g:=gb193) (o:=.cells #[.slice A0_0 l0_0.length c0_0] 31 (0,0)) (by (with_reducible repeat (first|refine blk_drewN ?_ _|refine blk_drew ?_|refine blk_alloc ?_ _));exact BK193.out)):gb194≠gb193));clear BK193;clear HB;have BK193:=n0_;have HB:=n1_;have BK194:=n2_;have GW194:=n3_;have GE194:=n4_;have NB193_194:=n5_;have NB194_193:=n6_;clear n0_ n1_ n2_ n3_ n4_ n5_ n6_;clear hb hbox hg;have hnb32:=NB193_194.out;have hnc32:=NB194_193.out;have hcz33_0:w31.cell? ⟨gb193,0,none⟩=some (.slice A0_0 l0_0.length c0_0):=(blk_cell BK193.out 0).trans rfl;have hfz33_0:=blk_frozen BK193.out 0)|((with_reducible refine gate_callee (f:=27) rfl ?_);refine goesL_ (some 7) rfl rfl Try.func27 (by kernel_rfl) rfl #[.agg #[.slice A0_0 l0_0.length c0_0]] rfl (by (try simp only [List.map_toArray,List.map_cons,List.map_nil]);first|done|rfl|(simp only [List.length_drop,List.length_take];rfl)) ?_;(with_reducible refine (spec_TreeOk.calls k _ _ l0_0 true _ ?side1 ?side2 A3.out).mono ?_);(case side1=>repeat (first|exact (Kd.C_below HR0_0.out HB.out)|(with_reducible refine Kd.C_alloc ?_ _)|(with_reducible refine Kd.C_drewN ?_ _)|(with_reducible refine Kd.C_drew ?_)));(case side2=>exact HC0_0.out);rintro e w34 ⟨rfl,hb⟩;refine ⟨_,rfl,?_⟩;have n0_:=Aside0.mk (blk_below (g:=gb193) (o:=.cells #[.slice A0_0 l0_0.length c0_0] 31 (0,0)) (by (with_reducible repeat (first|refine blk_drewN ?_ _|refine blk_drew ?_|refine blk_alloc ?_ _));exact BK193.out) hb);have n1_:=Aside0.mk (blk_below (g:=gb194) (o:=.cells #[.int .i64 a1_0,.int .i64 a1_1] 33 (0,0)) (by (with_reducible repeat (first|refine blk_drewN ?_ _|refine blk_drew ?_|refine blk_alloc ?_ _));exact BK194.out) hb);have n2_:=Aside0.mk (below_step (by repeat (first|exact HB.out|apply below_alloc|apply pw_below_drewN|apply below_drew1|refine below_set ?_ GE193.out|refine below_set ?_ GE194.out)) hb);clear BK193;clear BK194;clear HB;have BK193:=n0_;have BK194:=n1_;have HB:=n2_;clear n0_ n1_ n2_;(try clear hb);(try clear hb2);(try clear hk);(try clear hi);have hcz35_0:w34.cell? ⟨gb193,0,none⟩=some (.slice A0_0 l0_0.length c0_0):=(blk_cell BK193.out 0).trans rfl;have hfz35_0:=blk_frozen BK193.out 0;have hcz36_0:w34.cell? ⟨gb194,0,none⟩=some (.int .i64 a1_0):=(blk_cell BK194.out 0).trans rfl;have hcz36_1:w34.cell? ⟨gb194,1,none⟩=some (.int .i64 a1_1):=(blk_cell BK194.out 1).trans rfl;have hfz36_0:=blk_frozen BK194.out 0;have hfz36_1:=blk_frozen BK194.out 1)|((with_reducible refine gate_callee (f:=28) rfl ?_);refine goesL_ (some 12) rfl rfl Try.func28 (by kernel_rfl) rfl #[.agg #[.slice A0_0 l0_0.length c0_0],.int .i64 a1_0] rfl (by (try simp only [List.map_toArray,List.map_cons,List.map_nil]);first|done|rfl|(simp only [List.length_drop,List.length_take];rfl)) ?_;(with_reducible refine (spec_l4At.calls k _ _ l0_0 a1_0 t196 _ ?side1 ?side2 A5.out).mono ?_);(case side1=>repeat (first|exact (Kd.C_below HR0_0.out HB.out)|(with_reducible refine Kd.C_alloc ?_ _)|(with_reducible refine Kd.C_drewN ?_ _)|(with_reducible refine Kd.C_drew ?_)));(case side2=>exact HC0_0.out);rintro e w37 ⟨rfl,hb⟩;refine ⟨_,rfl,?_⟩;have n0_:=Aside0.mk (blk_below (g:=gb193) (o:=.cells #[.slice A0_0 l0_0.length c0_0] 31 (0,0)) (by (with_reducible repeat (first|refine blk_drewN ?_ _|refine blk_drew ?_|refine blk_alloc ?_ _));exact BK193.out) hb);have n1_:=Aside0.mk (blk_below (g:=gb194) (o:=.cells #[.int .i64 a1_0,.int .i64 a1_1] 33 (0,0)) (by (with_reducible repeat (first|refine blk_drewN ?_ _|refine blk_drew ?_|refine blk_alloc ?_ _));exact BK194.out) hb);have n2_:=Aside0.mk (below_step (by repeat (first|exact HB.out|apply below_alloc|apply pw_below_drewN|apply below_drew1|refine below_set ?_ GE193.out|refine below_set ?_ GE194.out)) hb);clear BK193;clear BK194;clear HB;have BK193:=n0_;have BK194:=n1_;have HB:=n2_;clear n0_ n1_ n2_;(try clear hb);(try clear hb2);(try clear hk);(try clear hi)))
   have n0_:=Aside0.mk (blk_drew BK193.out)
   have n1_:=Aside0.mk (blk_drew BK194.out)
   have n2_:=Aside0.mk (below_drew1 HB.out)
   clear BK193
   clear BK194
   clear HB
   have BK193:=n0_
   have BK194:=n1_
   have HB:=n2_
   clear n0_ n1_ n2_
   refine start_ (n:=19) (S:=fun w'=>True) (ds:=[]) #[false,false,false,false,false,false,false,false,false,false,false,false,false,false,false,false,false,false,false] (by kernel_rfl) rfl rfl trivial (fun hHeld=>?_);refine with_tabW spec_SpotOk.tab4 spec_SpotOk.bits4 (fun HT_ HW_=>?_)
   generalize w37.drew=w38 at BK193 BK194 HB hHeld ⊢
   refine pure_ (i:=0) (N:=some 13) (v:=?_) (a':=?_) #[true,false,false,false,false,false,false,false,false,false,false,false,false,false,false,false,false,false,false] rfl rfl (any_of HT_.out (by kernel_rfl)) (fun _ _ _ h=>h) (Or.inl ⟨by rfl,?_⟩) ?_ ?_
   rotate_left
   ·intro w'
    go_simp
    with_reducible rfl
   rotate_left
   ·simp only [Act.put,List.setIfInBounds_toArray,List.set_cons_zero,List.set_cons_succ,i64_w,i32_w]
    rfl
   refine pure_ (i:=1) (N:=some 14) (v:=?_) (a':=?_) #[true,true,false,false,false,false,false,false,false,false,false,false,false,false,false,false,false,false,false] rfl rfl (any_of HT_.out (by kernel_rfl)) (fun _ _ _ h=>h) (Or.inl ⟨by rfl,?_⟩) ?_ ?_
   rotate_left
   ·intro w'
    go_simp
    with_reducible rfl
   rotate_left
   ·simp only [Act.put,List.setIfInBounds_toArray,List.set_cons_zero,List.set_cons_succ,i64_w,i32_w]
    rfl
   refine pure_ (i:=2) (N:=some 15) (v:=?_) (a':=?_) #[true,true,true,false,false,false,false,false,false,false,false,false,false,false,false,false,false,false,false] rfl rfl (any_of HT_.out (by kernel_rfl)) (fun _ _ _ h=>h) (Or.inl ⟨by rfl,?_⟩) ?_ ?_
   rotate_left
   ·intro w'
    go_simp
    with_reducible rfl
   rotate_left
   ·simp only [Act.put,List.setIfInBounds_toArray,List.set_cons_zero,List.set_cons_succ,i64_w,i32_w]
    rfl
   refine pure_ (i:=3) (N:=some 16) (v:=undef) (a':=?_) #[true,true,true,true,false,false,false,false,false,false,false,false,false,false,false,false,false,false,false] rfl rfl (any_of HT_.out (by kernel_rfl)) (fun _ _ _ h=>h) (Or.inr ⟨by rfl,rfl⟩) ?_ ?_
   rotate_left
   ·simp only [Act.put,List.setIfInBounds_toArray,List.set_cons_zero,List.set_cons_succ,i64_w,i32_w]
    rfl
   refine pure_ (i:=4) (N:=some 17) (v:=undef) (a':=?_) #[true,true,true,true,true,false,false,false,false,false,false,false,false,false,false,false,false,false,false] rfl rfl (any_of HT_.out (by kernel_rfl)) (fun _ _ _ h=>h) (Or.inr ⟨by rfl,rfl⟩) ?_ ?_
   rotate_left
   ·simp only [Act.put,List.setIfInBounds_toArray,List.set_cons_zero,List.set_cons_succ,i64_w,i32_w]
    rfl
   refine pure_ (i:=5) (N:=some 18) (v:=undef) (a':=?_) #[true,true,true,true,true,true,false,false,false,false,false,false,false,false,false,false,false,false,false] rfl rfl (any_of HT_.out (by kernel_rfl)) (fun _ _ _ h=>h) (Or.inr ⟨by rfl,rfl⟩) ?_ ?_
   rotate_left
   ·simp only [Act.put,List.setIfInBounds_toArray,List.set_cons_zero,List.set_cons_succ,i64_w,i32_w]
    rfl
   refine pure_ (i:=6) (N:=some 19) (v:=?_) (a':=?_) #[true,true,true,true,true,true,true,false,false,false,false,false,false,false,false,false,false,false,false] rfl rfl (any_of HT_.out (by kernel_rfl)) (fun _ _ _ h=>h) (Or.inl ⟨by rfl,?_⟩) ?_ ?_
   rotate_left
   ·intro w'
    go_simp
    with_reducible rfl
   rotate_left
   ·simp only [Act.put,List.setIfInBounds_toArray,List.set_cons_zero,List.set_cons_succ,i64_w,i32_w]
    rfl
   refine pure_ (i:=7) (N:=some 20) (v:=?_) (a':=?_) #[true,true,true,true,true,true,true,true,false,false,false,false,false,false,false,false,false,false,false] rfl rfl (any_of HT_.out (by kernel_rfl)) (fun _ _ _ h=>h) (Or.inl ⟨by rfl,?_⟩) ?_ ?_
   rotate_left
   ·intro w'
    go_simp
    with_reducible rfl
   rotate_left
   ·simp only [Act.put,List.setIfInBounds_toArray,List.set_cons_zero,List.set_cons_succ,i64_w,i32_w]
    rfl
   refine pure_ (i:=8) (N:=some 21) (v:=undef) (a':=?_) #[true,true,true,true,true,true,true,true,true,false,false,false,false,false,false,false,false,false,false] rfl rfl (any_of HT_.out (by kernel_rfl)) (fun _ _ _ h=>h) (Or.inr ⟨by rfl,rfl⟩) ?_ ?_
   rotate_left
   ·simp only [Act.put,List.setIfInBounds_toArray,List.set_cons_zero,List.set_cons_succ,i64_w,i32_w]
    rfl
   refine pure_ (i:=9) (N:=some 22) (v:=undef) (a':=?_) #[true,true,true,true,true,true,true,true,true,true,false,false,false,false,false,false,false,false,false] rfl rfl (any_of HT_.out (by kernel_rfl)) (fun _ _ _ h=>h) (Or.inr ⟨by rfl,rfl⟩) ?_ ?_
   rotate_left
   ·simp only [Act.put,List.setIfInBounds_toArray,List.set_cons_zero,List.set_cons_succ,i64_w,i32_w]
    rfl
   refine pure_ (i:=10) (N:=some 23) (v:=undef) (a':=?_) #[true,true,true,true,true,true,true,true,true,true,true,false,false,false,false,false,false,false,false] rfl rfl (any_of HT_.out (by kernel_rfl)) (fun _ _ _ h=>h) (Or.inr ⟨by rfl,rfl⟩) ?_ ?_
   rotate_left
   ·simp only [Act.put,List.setIfInBounds_toArray,List.set_cons_zero,List.set_cons_succ,i64_w,i32_w]
    rfl
   refine pure_ (i:=11) (N:=some 24) (v:=undef) (a':=?_) #[true,true,true,true,true,true,true,true,true,true,true,true,false,false,false,false,false,false,false] rfl rfl (any_of HT_.out (by kernel_rfl)) (fun _ _ _ h=>h) (Or.inr ⟨by rfl,rfl⟩) ?_ ?_
   rotate_left
   ·simp only [Act.put,List.setIfInBounds_toArray,List.set_cons_zero,List.set_cons_succ,i64_w,i32_w]
    rfl
   refine pure_ (i:=12) (N:=some 25) (v:=undef) (a':=?_) #[true,true,true,true,true,true,true,true,true,true,true,true,true,false,false,false,false,false,false] rfl rfl (any_of HT_.out (by kernel_rfl)) (fun _ _ _ h=>h) (Or.inr ⟨by rfl,rfl⟩) ?_ ?_
   rotate_left
   ·simp only [Act.put,List.setIfInBounds_toArray,List.set_cons_zero,List.set_cons_succ,i64_w,i32_w]
    rfl
   refine pure_ (i:=13) (N:=some 26) (v:=undef) (a':=?_) #[true,true,true,true,true,true,true,true,true,true,true,true,true,true,false,false,false,false,false] rfl rfl (any_of HT_.out (by kernel_rfl)) (fun _ _ _ h=>h) (Or.inr ⟨by rfl,rfl⟩) ?_ ?_
   rotate_left
   ·simp only [Act.put,List.setIfInBounds_toArray,List.set_cons_zero,List.set_cons_succ,i64_w,i32_w]
    rfl
   refine pure_ (i:=14) (N:=some 27) (v:=undef) (a':=?_) #[true,true,true,true,true,true,true,true,true,true,true,true,true,true,true,false,false,false,false] rfl rfl (any_of HT_.out (by kernel_rfl)) (fun _ _ _ h=>h) (Or.inr ⟨by rfl,rfl⟩) ?_ ?_
   rotate_left
   ·simp only [Act.put,List.setIfInBounds_toArray,List.set_cons_zero,List.set_cons_succ,i64_w,i32_w]
    rfl
   refine pure_ (i:=15) (N:=some 28) (v:=undef) (a':=?_) #[true,true,true,true,true,true,true,true,true,true,true,true,true,true,true,true,false,false,false] rfl rfl (any_of HT_.out (by kernel_rfl)) (fun _ _ _ h=>h) (Or.inr ⟨by rfl,rfl⟩) ?_ ?_
   rotate_left
   ·simp only [Act.put,List.setIfInBounds_toArray,List.set_cons_zero,List.set_cons_succ,i64_w,i32_w]
    rfl
   refine pure_ (i:=16) (N:=some 29) (v:=undef) (a':=?_) #[true,true,true,true,true,true,true,true,true,true,true,true,true,true,true,true,true,false,false] rfl rfl (any_of HT_.out (by kernel_rfl)) (fun _ _ _ h=>h) (Or.inr ⟨by rfl,rfl⟩) ?_ ?_
   rotate_left
   ·simp only [Act.put,List.setIfInBounds_toArray,List.set_cons_zero,List.set_cons_succ,i64_w,i32_w]
    rfl
   refine pure_ (i:=17) (N:=some 30) (v:=?_) (a':=?_) #[true,true,true,true,true,true,true,true,true,true,true,true,true,true,true,true,true,true,false] rfl rfl (any_of HT_.out (by kernel_rfl)) (fun _ _ _ h=>h) (Or.inl ⟨by rfl,?_⟩) ?_ ?_
   rotate_left
   ·intro w'
    go_simp
    with_reducible rfl
   rotate_left
   ·simp only [Act.put,List.setIfInBounds_toArray,List.set_cons_zero,List.set_cons_succ,i64_w,i32_w]
    rfl
   refine pure_ (i:=18) (N:=some 4) (v:=?_) (a':=?_) #[true,true,true,true,true,true,true,true,true,true,true,true,true,true,true,true,true,true,true] rfl rfl (any_of HT_.out (by kernel_rfl)) (fun _ _ _ h=>h) (Or.inl ⟨by rfl,?_⟩) ?_ ?_
   rotate_left
   ·intro w'
    go_simp
    with_reducible rfl
   rotate_left
   ·simp only [Act.put,List.setIfInBounds_toArray,List.set_cons_zero,List.set_cons_succ,i64_w,i32_w]
    rfl
   refine done_ (done_of HT_.out (by kernel_rfl)) ?_
   try go_wp2
   go_ret
   exact ⟨by first|rfl|(simp [errW_none,errW_some]<;>rfl)|(simp [*,errW_none,errW_some]<;>rfl),by repeat (first|exact HB.out|apply below_alloc|apply pw_below_drewN|apply below_drew1|refine below_set ?_ GE193.out|refine below_set ?_ GE194.out)⟩
 ·replace c4:=Bool.eq_false_iff.mpr c4
  subst c4
  have H1:=H
  rw [if_neg (show ¬ (false=true) by decide)] at H1
  clear H
  have H:=H1
  clear H1
  obtain rfl:=Option.some.inj H
  go_enter Try.func15,Try.ntmps15
  go_wp2_with (first|((with_reducible refine gate_dst (N:=2) rfl ?_);refine box_event rfl (N:=2) rfl (cs:=#[.slice A0_0 l0_0.length c0_0]) (t:=31) ?hr ?_;(case hr=>first|(go_simp;done)|(go_simp;rfl));intro gb193 hg w39 hbox hb;have n0_:=Aside0.mk (below_step (by repeat (first|exact HB.out|apply below_alloc|apply pw_below_drewN|apply below_drew1)) hb);have n1_:=Aside0.mk (hbox);have n2_:=Aside0.mk ((by rw [hg];exact (below_size (by repeat (first|exact HB.out|apply below_alloc|apply pw_below_drewN|apply below_drew1))):w.heap.size≤gb193));have n3_:=Aside0.mk ((by rw [hg];exact (below_size (by repeat (first|exact HB.out|apply below_alloc|apply pw_below_drewN|apply below_drew1))):w.heap.size≤gb193));clear HB;have HB:=n0_;have BK193:=n1_;have GW193:=n2_;have GE193:=n3_;clear n0_ n1_ n2_ n3_;clear hb hbox hg)|((with_reducible refine gate_dst (N:=3) rfl ?_);refine box_event rfl (N:=3) rfl (cs:=#[.int .i64 a1_0,.int .i64 a1_1]) (t:=33) ?hr ?_;(case hr=>first|(go_simp;done)|(go_simp;rfl));intro gb194 hg w40 hbox hb;have n0_:=Aside0.mk (blk_below (g:=gb193) (o:=.cells #[.slice A0_0 l0_0.length c0_0] 31 (0,0)) (by (with_reducible repeat (first|refine blk_drewN ?_ _|refine blk_drew ?_|refine blk_alloc ?_ _));exact BK193.out) hb);have n1_:=Aside0.mk (below_step (by repeat (first|exact HB.out|apply below_alloc|apply pw_below_drewN|apply below_drew1|refine below_set ?_ GE193.out)) hb);have n2_:=Aside0.mk (hbox);have n3_:=Aside0.mk ((by rw [hg];exact (below_size (by repeat (first|exact HB.out|apply below_alloc|apply pw_below_drewN|apply below_drew1|refine below_set ?_ GE193.out))):w.heap.size≤gb194));have n4_:=Aside0.mk ((by rw [hg];exact (below_size (by repeat (first|exact HB.out|apply below_alloc|apply pw_below_drewN|apply below_drew1|refine below_set ?_ GE193.out))):w.heap.size≤gb194));have n5_:=Aside0.mk ((by rw [hg];exact Nat.ne_of_lt (blk_lt (g:=gb193) (o:=.cells #[.slice A0_0 l0_0.length c0_0] 31 (0,0)) (by (with_reducible repeat (first|refine blk_drewN ?_ _|refine blk_drew ?_|refine blk_alloc ?_ _));exact BK193.out)):gb193≠gb194));have n6_:=Aside0.mk ((by rw [hg];exact Nat.ne_of_gt (blk_lt (g:=gb193) (o:=.cells #[.slice A0_0 l0_0.length c0_0] 31 (0,0)) (by (with_reducible repeat (first|refine blk_drewN ?_ _|refine blk_drew ?_|refine blk_alloc ?_ _));exact BK193.out)):gb194≠gb193));clear BK193;clear HB;have BK193:=n0_;have HB:=n1_;have BK194:=n2_;have GW194:=n3_;have GE194:=n4_;have NB193_194:=n5_;have NB194_193:=n6_;clear n0_ n1_ n2_ n3_ n4_ n5_ n6_;clear hb hbox hg;have hnb41:=NB193_194.out;have hnc41:=NB194_193.out;have hcz42_0:w40.cell? ⟨gb193,0,none⟩=some (.slice A0_0 l0_0.length c0_0):=(blk_cell BK193.out 0).trans rfl;have hfz42_0:=blk_frozen BK193.out 0)|((with_reducible refine gate_callee (f:=27) rfl ?_);refine goesL_ (some 7) rfl rfl Try.func27 (by kernel_rfl) rfl #[.agg #[.slice A0_0 l0_0.length c0_0]] rfl (by (try simp only [List.map_toArray,List.map_cons,List.map_nil]);first|done|rfl|(simp only [List.length_drop,List.length_take];rfl)) ?_;(with_reducible refine (spec_TreeOk.calls k _ _ l0_0 false _ ?side1 ?side2 A3.out).mono ?_);(case side1=>repeat (first|exact (Kd.C_below HR0_0.out HB.out)|(with_reducible refine Kd.C_alloc ?_ _)|(with_reducible refine Kd.C_drewN ?_ _)|(with_reducible refine Kd.C_drew ?_)));(case side2=>exact HC0_0.out);rintro e w43 ⟨rfl,hb⟩;refine ⟨_,rfl,?_⟩;have n0_:=Aside0.mk (blk_below (g:=gb193) (o:=.cells #[.slice A0_0 l0_0.length c0_0] 31 (0,0)) (by (with_reducible repeat (first|refine blk_drewN ?_ _|refine blk_drew ?_|refine blk_alloc ?_ _));exact BK193.out) hb);have n1_:=Aside0.mk (blk_below (g:=gb194) (o:=.cells #[.int .i64 a1_0,.int .i64 a1_1] 33 (0,0)) (by (with_reducible repeat (first|refine blk_drewN ?_ _|refine blk_drew ?_|refine blk_alloc ?_ _));exact BK194.out) hb);have n2_:=Aside0.mk (below_step (by repeat (first|exact HB.out|apply below_alloc|apply pw_below_drewN|apply below_drew1|refine below_set ?_ GE193.out|refine below_set ?_ GE194.out)) hb);clear BK193;clear BK194;clear HB;have BK193:=n0_;have BK194:=n1_;have HB:=n2_;clear n0_ n1_ n2_;(try clear hb);(try clear hb2);(try clear hk);(try clear hi)))
  go_ret
  exact ⟨by first|rfl|(simp [errW_none,errW_some]<;>rfl)|(simp [*,errW_none,errW_some]<;>rfl),by repeat (first|exact HB.out|apply below_alloc|apply pw_below_drewN|apply below_drew1|refine below_set ?_ GE193.out|refine below_set ?_ GE194.out)⟩
end Go.Proofs.Ytbogfagafdokeaa.QFnExactRangeText
