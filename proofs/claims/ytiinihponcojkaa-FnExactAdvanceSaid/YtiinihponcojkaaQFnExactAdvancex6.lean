/- Written by a program (wip/tools/own_print.py) out of the walk that the kit's printer made; turned where it fell. -/
-- PRINTED by print.py (a twelfth state) out of the translation. Not trusted: Lean checks it.
import Derived.Test.YtiinihponcojkaaQFnExactAdvancex0
import Derived.Test.YtiinihponcojkaaQFnExactAdvancex5
namespace Go.Proofs.Ytiinihponcojkaa.QFnExactAdvance
open Go.RowKit Go.Proofs.YtiinihponcojkaaV.PrintWords Go.Proofs.YtiinihponcojkaaV.PrintLast Go.Proofs.YtiinihponcojkaaV.PrintMore
attribute [local go_sem] max2_int min2_int max_two min_two max_three min_three max_four min_four   -- for this text's walks alone
set_option linter.unusedVariables false
set_option linter.unusedSimpArgs false
private theorem blkf7 {w:World} {g:Nat} {t:TypeId} {c0 c1 c2 c3 c4 c5 c6:Value} (h:w.heap[g]?=some (.cells #[c0,c1,c2,c3,c4,c5,c6] t (0,0))):w.cell? ⟨g,0,none⟩=some c0∧w.cell? ⟨g,1,none⟩=some c1∧w.cell? ⟨g,2,none⟩=some c2∧w.cell? ⟨g,3,none⟩=some c3∧w.cell? ⟨g,4,none⟩=some c4∧w.cell? ⟨g,5,none⟩=some c5∧w.cell? ⟨g,6,none⟩=some c6∧w.frozen? ⟨g,0,none⟩=false∧w.frozen? ⟨g,1,none⟩=false∧w.frozen? ⟨g,2,none⟩=false∧w.frozen? ⟨g,3,none⟩=false∧w.frozen? ⟨g,4,none⟩=false∧w.frozen? ⟨g,5,none⟩=false∧w.frozen? ⟨g,6,none⟩=false:=⟨(blk_cell h 0).trans rfl,(blk_cell h 1).trans rfl,(blk_cell h 2).trans rfl,(blk_cell h 3).trans rfl,(blk_cell h 4).trans rfl,(blk_cell h 5).trans rfl,(blk_cell h 6).trans rfl,blk_frozen h 0,blk_frozen h 1,blk_frozen h 2,blk_frozen h 3,blk_frozen h 4,blk_frozen h 5,blk_frozen h 6⟩
/-! ### spec_l12Lig: function 27 -/
def spec_l12Lig.l0:Nat→Int→Int→Int→Int→Int→Int→Int→List (S79)→List (S81)→List (S84)→Option (Int×Bool)
  |0,_,_,_,_,_,_,_,_,_,_=>none
  |k+1,x1,x2,x8,x198000,x198001,x198002,x198003,x198004,x198005,x198006=>if x8<(x198006.length:Int) then (if 0≤x8 then (if ((rd_T84 x198006 x8).f0)=x1 then (if ((rd_T84 x198006 x8).f1)=x2 then (some ((rd_T84 x198006 x8).f2,true)) else (spec_l12Lig.l0 k x1 x2 (wrap64 (x8+1)) x198000 x198001 x198002 x198003 x198004 x198005 x198006)) else (spec_l12Lig.l0 k x1 x2 (wrap64 (x8+1)) x198000 x198001 x198002 x198003 x198004 x198005 x198006)) else (none)) else (some (0,false))
def spec_l12Lig.f (k:Nat) (a0_0:Int) (a0_1:Int) (a0_2:Int) (a0_3:Int) (l0_4:List (S79)) (l0_5:List (S81)) (l0_6:List (S84)) (a1:Int) (a2:Int):Option (Int×Bool):=spec_l12Lig.l0 k a1 a2 0 a0_0 a0_1 a0_2 a0_3 l0_4 l0_5 l0_6
theorem spec_l12Lig.mono_l:∀ k,(∀ y0 y1 y2 y3 y4 y5 y6 y7 y8 y9,LeO (spec_l12Lig.l0 k y0 y1 y2 y3 y4 y5 y6 y7 y8 y9) (spec_l12Lig.l0 (k+1) y0 y1 y2 y3 y4 y5 y6 y7 y8 y9))
 |0=>fun _ _ _ _ _ _ _ _ _ _ r h=>by simp [spec_l12Lig.l0] at h
 |k+1=>by
  have ih0:=spec_l12Lig.mono_l k
  ·intro y0 y1 y2 y3 y4 y5 y6 y7 y8 y9
   unfold spec_l12Lig.l0
   repeat' first
  |(with_reducible exact ih0 _ _ _ _ _ _ _ _ _ _)
  |(with_reducible exact LeO.refl _)
  |(with_reducible exact LeO.none _)
  |(with_reducible refine LeO.ite ?_ ?_)
  |(with_reducible refine LeO.bind ?_ (fun _=>?_))
  |exact ih0 _ _ _ _ _ _ _ _ _ _
  |exact LeO.none _
  |refine LeO.ite ?_ ?_
  |refine LeO.bind ?_ (fun _=>?_)
theorem spec_l12Lig.mono:∀ a0 a1 a2 a3 a4 a5 a6 a7 a8 k,LeO (spec_l12Lig.f k a0 a1 a2 a3 a4 a5 a6 a7 a8) (spec_l12Lig.f (k+1) a0 a1 a2 a3 a4 a5 a6 a7 a8):=by
 intro a0 a1 a2 a3 a4 a5 a6 a7 a8 k
 have ih0:=spec_l12Lig.mono_l k
 unfold spec_l12Lig.f
 repeat' first
  |(with_reducible exact ih0 _ _ _ _ _ _ _ _ _ _)
  |(with_reducible exact LeO.refl _)
  |(with_reducible exact LeO.none _)
  |(with_reducible refine LeO.ite ?_ ?_)
  |(with_reducible refine LeO.bind ?_ (fun _=>?_))
  |exact ih0 _ _ _ _ _ _ _ _ _ _
  |exact LeO.none _
  |refine LeO.ite ?_ ?_
  |refine LeO.bind ?_ (fun _=>?_)
set_option maxHeartbeats 8000000 in
set_option maxRecDepth 100000 in
theorem spec_l12Lig.calls (k:Nat) (a0_0:Int) (a0_1:Int) (a0_2:Int) (a0_3:Int) (A0_4:Option Addr) (c0_4:Nat) (l0_4:List (S79)) (A0_5:Option Addr) (c0_5:Nat) (l0_5:List (S81)) (A0_6:Option Addr) (c0_6:Nat) (l0_6:List (S84)) (a1:Int) (a2:Int) (r1:Int) (r2:Bool) (w:World) (hr0_4:Kd.C k79 w A0_4 l0_4.length l0_4) (hc0_4:l0_4.length≤c0_4) (hr0_5:Kd.C k81 w A0_5 l0_5.length l0_5) (hc0_5:l0_5.length≤c0_5) (hr0_6:Kd.C k84 w A0_6 l0_6.length l0_6) (hc0_6:l0_6.length≤c0_6) (h:spec_l12Lig.f k a0_0 a0_1 a0_2 a0_3 l0_4 l0_5 l0_6 a1 a2=some (r1,r2)) :
  Calls Try.prog 27 #[.agg #[.int .i64 a0_0,.int .i64 a0_1,.int .i64 a0_2,.int .i64 a0_3,.slice A0_4 l0_4.length c0_4,.slice A0_5 l0_5.length c0_5,.slice A0_6 l0_6.length c0_6],.int .i64 a1,.int .i64 a2] w fun e w'=>e=.returned (.tuple #[.int .i64 r1,.bool r2])∧Below w.heap.size w w':=by
 have hu34:=Try.underlying34
 have HR0_4:=Aside0.mk hr0_4
 have HC0_4:=Aside0.mk hc0_4
 clear hr0_4 hc0_4
 have HR0_5:=Aside0.mk hr0_5
 have HC0_5:=Aside0.mk hc0_5
 clear hr0_5 hc0_5
 have HR0_6:=Aside0.mk hr0_6
 have HC0_6:=Aside0.mk hc0_6
 clear hr0_6 hc0_6
 have HB:=Aside0.mk (Below.refl w.heap.size w)
 have H:(spec_l12Lig.l0 k a1 a2 0 a0_0 a0_1 a0_2 a0_3 l0_4 l0_5 l0_6)=some (r1,r2):=h
 clear h
 have H':=Aside0.mk H
 clear H
 go_enter Try.func27,Try.ntmps27
 go_wp2_with (first|((with_reducible refine gate_dst (N:=3) rfl ?_);refine box_event ?hg (N:=3) ?hd (cs:=#[.int .i64 a0_0,.int .i64 a0_1,.int .i64 a0_2,.int .i64 a0_3,.slice A0_4 l0_4.length c0_4,.slice A0_5 l0_5.length c0_5,.slice A0_6 l0_6.length c0_6]) (t:=34) ?hr ?_;(case hd=>rfl);(case hg=>rfl);(case hr=>first|(go_simp;done)|(go_simp;rfl));intro gb197 hg w4 hbox hb;have n0_:=Aside0.mk (below_step (by repeat (first|(with_reducible first|exact HB.out|apply below_alloc|apply pw_below_drewN|apply below_drew1)|exact HB.out)) hb);have n1_:=Aside0.mk (hbox);have n2_:=Aside0.mk ((by rw [hg];exact (below_size (by repeat (first|(with_reducible first|exact HB.out|apply below_alloc|apply pw_below_drewN|apply below_drew1)|exact HB.out))):w.heap.size≤gb197));have n3_:=Aside0.mk ((by rw [hg];exact (below_size (by repeat (first|(with_reducible first|exact HB.out|apply below_alloc|apply pw_below_drewN|apply below_drew1)|exact HB.out))):w.heap.size≤gb197));clear HB;have HB:=n0_;have BK197:=n1_;have GW197:=n2_;have GE197:=n3_;clear n0_ n1_ n2_ n3_;clear hb hbox hg))
 go_loopg [8] k (fun kq v8 w'=>∃ (x8_1:Int),v8=.int .i64 x8_1∧Aside0 (spec_l12Lig.l0 kq a1 a2 x8_1 a0_0 a0_1 a0_2 a0_3 l0_4 l0_5 l0_6=some (r1,r2))∧Aside0 (kq≤k)∧Aside0 (w'.heap[gb197]?=some (.cells #[.int .i64 a0_0,.int .i64 a0_1,.int .i64 a0_2,.int .i64 a0_3,(.slice A0_4 l0_4.length c0_4),(.slice A0_5 l0_5.length c0_5),(.slice A0_6 l0_6.length c0_6)] 34 (0,0)))∧Aside0 (Below w.heap.size w w'))
 case atStart=>exact ⟨(0),(by first|rfl|(simp;done)|(simp [*];done)),H',⟨Nat.le_refl _⟩,⟨by (with_reducible repeat (first|refine blk_drewN ?_ _|refine blk_drew ?_|refine blk_alloc ?_ _));exact BK197.out⟩,⟨by repeat (first|exact HB.out|apply below_alloc|apply pw_below_drewN|apply below_drew1|refine below_set ?_ GE197.out)⟩⟩
 case round=>
  clear H'
  try clear c2;try clear p2
  obtain ⟨x8_1,rfl,HA,HK1,BK197,HB⟩:=hrel
  cases gk with
 |zero=>exact absurd HA.out (by simp [spec_l12Lig.l0])
 |succ k1=>
   have H:=HA.out
   clear HA
   simp only [spec_l12Lig.l0] at H
   by_cases c5:x8_1<(l0_6.length:Int)
   ·rw [if_pos c5] at H
    have c5b0:decide (x8_1<(l0_6.length:Int))=true:=decide_eq_true c5
    clear c5
    by_cases c6:0≤x8_1
    ·rw [if_pos c6] at H
     have c6b0:decide (0≤x8_1)=true:=decide_eq_true c6
     clear c6
     by_cases c7:((rd_T84 l0_6 x8_1).f0)=a1
     ·rw [if_pos c7] at H
      have c7b0:(((rd_T84 l0_6 x8_1).f0)==a1)=true:=beq_iff_eq.mpr c7
      have c7b1:(((rd_T84 l0_6 x8_1).f0) != a1)=false:=bne_eq_false_iff_eq.mpr c7
      clear c7
      by_cases c8:((rd_T84 l0_6 x8_1).f1)=a2
      ·rw [if_pos c8] at H
       have c8b0:(((rd_T84 l0_6 x8_1).f1)==a2)=true:=beq_iff_eq.mpr c8
       have c8b1:(((rd_T84 l0_6 x8_1).f1) != a2)=false:=bne_eq_false_iff_eq.mpr c8
       clear c8
       simp only [Option.some.injEq,Prod.mk.injEq] at H
       obtain ⟨rfl,rfl⟩:=H
       obtain ⟨hcz9_0,hcz9_1,hcz9_2,hcz9_3,hcz9_4,hcz9_5,hcz9_6,hfz9_0,hfz9_1,hfz9_2,hfz9_3,hfz9_4,hfz9_5,hfz9_6⟩:=blkf7 BK197.out
       have p198:0≤(x8_1:Int):=of_decide_eq_true (by first|(with_reducible assumption)|assumption)
       have q198:x8_1<(l0_6.length:Int):=of_decide_eq_true (by first|(with_reducible assumption)|assumption)
       obtain ⟨ad198,e198,hx198_0,hx198_1,hx198_2⟩:=at_T84 HR0_6.out x8_1 p198 q198
       cases e198
       replace hx198_0:=pw_cell_below HB.out hx198_0
       replace hx198_1:=pw_cell_below HB.out hx198_1
       replace hx198_2:=pw_cell_below HB.out hx198_2
       replace p198:=eq_true p198
       replace q198:=eq_true q198
       have p199:0≤(x8_1:Int):=of_decide_eq_true (by first|(with_reducible assumption)|assumption)
       have q199:x8_1<(l0_6.length:Int):=of_decide_eq_true (by first|(with_reducible assumption)|assumption)
       obtain ⟨ad199,e199,hx199_0,hx199_1,hx199_2⟩:=at_T84 HR0_6.out x8_1 p199 q199
       obtain rfl:ad198=ad199:=(by injection e199)
       replace hx199_0:=pw_cell_below HB.out hx199_0
       replace hx199_1:=pw_cell_below HB.out hx199_1
       replace hx199_2:=pw_cell_below HB.out hx199_2
       replace p199:=eq_true p199
       replace q199:=eq_true q199
       have p200:0≤(x8_1:Int):=of_decide_eq_true (by first|(with_reducible assumption)|assumption)
       have q200:x8_1<(l0_6.length:Int):=of_decide_eq_true (by first|(with_reducible assumption)|assumption)
       obtain ⟨ad200,e200,hx200_0,hx200_1,hx200_2⟩:=at_T84 HR0_6.out x8_1 p200 q200
       obtain rfl:ad198=ad200:=(by injection e200)
       replace hx200_0:=pw_cell_below HB.out hx200_0
       replace hx200_1:=pw_cell_below HB.out hx200_1
       replace hx200_2:=pw_cell_below HB.out hx200_2
       replace p200:=eq_true p200
       replace q200:=eq_true q200
       go_wp2
       go_ret2
       exact ⟨by first|rfl|(simp [errW_none,errW_some]<;>rfl)|(simp [*,errW_none,errW_some]<;>rfl),by repeat (first|exact HB.out|apply below_alloc|apply pw_below_drewN|apply below_drew1|refine below_set ?_ GE197.out)⟩
      ·rw [if_neg c8] at H
       have c8b0:(((rd_T84 l0_6 x8_1).f1)==a2)=false:=beq_eq_false_iff_ne.mpr c8
       have c8b1:(((rd_T84 l0_6 x8_1).f1) != a2)=true:=bne_iff_ne.mpr c8
       have H':=Aside0.mk H
       clear H
       obtain ⟨hcz10_0,hcz10_1,hcz10_2,hcz10_3,hcz10_4,hcz10_5,hcz10_6,hfz10_0,hfz10_1,hfz10_2,hfz10_3,hfz10_4,hfz10_5,hfz10_6⟩:=blkf7 BK197.out
       have p198:0≤(x8_1:Int):=of_decide_eq_true (by first|(with_reducible assumption)|assumption)
       have q198:x8_1<(l0_6.length:Int):=of_decide_eq_true (by first|(with_reducible assumption)|assumption)
       obtain ⟨ad198,e198,hx198_0,hx198_1,hx198_2⟩:=at_T84 HR0_6.out x8_1 p198 q198
       cases e198
       replace hx198_0:=pw_cell_below HB.out hx198_0
       replace hx198_1:=pw_cell_below HB.out hx198_1
       replace hx198_2:=pw_cell_below HB.out hx198_2
       replace p198:=eq_true p198
       replace q198:=eq_true q198
       have p199:0≤(x8_1:Int):=of_decide_eq_true (by first|(with_reducible assumption)|assumption)
       have q199:x8_1<(l0_6.length:Int):=of_decide_eq_true (by first|(with_reducible assumption)|assumption)
       obtain ⟨ad199,e199,hx199_0,hx199_1,hx199_2⟩:=at_T84 HR0_6.out x8_1 p199 q199
       obtain rfl:ad198=ad199:=(by injection e199)
       replace hx199_0:=pw_cell_below HB.out hx199_0
       replace hx199_1:=pw_cell_below HB.out hx199_1
       replace hx199_2:=pw_cell_below HB.out hx199_2
       replace p199:=eq_true p199
       replace q199:=eq_true q199
       go_wp2
       go_roundg k1
       case measure=>have:=HK1.out;omega
       case rel=>exact ⟨(wrap64 (x8_1+1)),(by first|rfl|(simp;done)|(simp [*];done)),H',⟨by have:=HK1.out;omega⟩,⟨by (with_reducible repeat (first|refine blk_drewN ?_ _|refine blk_drew ?_|refine blk_alloc ?_ _));exact BK197.out⟩,⟨by repeat (first|exact HB.out|apply below_alloc|apply pw_below_drewN|apply below_drew1|refine below_set ?_ GE197.out)⟩⟩
     ·rw [if_neg c7] at H
      have c7b0:(((rd_T84 l0_6 x8_1).f0)==a1)=false:=beq_eq_false_iff_ne.mpr c7
      have c7b1:(((rd_T84 l0_6 x8_1).f0) != a1)=true:=bne_iff_ne.mpr c7
      have H':=Aside0.mk H
      clear H
      obtain ⟨hcz11_0,hcz11_1,hcz11_2,hcz11_3,hcz11_4,hcz11_5,hcz11_6,hfz11_0,hfz11_1,hfz11_2,hfz11_3,hfz11_4,hfz11_5,hfz11_6⟩:=blkf7 BK197.out
      have p198:0≤(x8_1:Int):=of_decide_eq_true (by first|(with_reducible assumption)|assumption)
      have q198:x8_1<(l0_6.length:Int):=of_decide_eq_true (by first|(with_reducible assumption)|assumption)
      obtain ⟨ad198,e198,hx198_0,hx198_1,hx198_2⟩:=at_T84 HR0_6.out x8_1 p198 q198
      cases e198
      replace hx198_0:=pw_cell_below HB.out hx198_0
      replace hx198_1:=pw_cell_below HB.out hx198_1
      replace hx198_2:=pw_cell_below HB.out hx198_2
      replace p198:=eq_true p198
      replace q198:=eq_true q198
      go_wp2
      go_roundg k1
      case measure=>have:=HK1.out;omega
      case rel=>exact ⟨(wrap64 (x8_1+1)),(by first|rfl|(simp;done)|(simp [*];done)),H',⟨by have:=HK1.out;omega⟩,⟨by (with_reducible repeat (first|refine blk_drewN ?_ _|refine blk_drew ?_|refine blk_alloc ?_ _));exact BK197.out⟩,⟨by repeat (first|exact HB.out|apply below_alloc|apply pw_below_drewN|apply below_drew1|refine below_set ?_ GE197.out)⟩⟩
    ·rw [if_neg c6] at H
     exact absurd H (by simp)
   ·rw [if_neg c5] at H
    have c5b0:decide (x8_1<(l0_6.length:Int))=false:=decide_eq_false c5
    clear c5
    simp only [Option.some.injEq,Prod.mk.injEq] at H
    obtain ⟨rfl,rfl⟩:=H
    obtain ⟨hcz12_0,hcz12_1,hcz12_2,hcz12_3,hcz12_4,hcz12_5,hcz12_6,hfz12_0,hfz12_1,hfz12_2,hfz12_3,hfz12_4,hfz12_5,hfz12_6⟩:=blkf7 BK197.out
    go_wp2
    go_ret2
    exact ⟨by first|rfl|(simp [errW_none,errW_some]<;>rfl)|(simp [*,errW_none,errW_some]<;>rfl),by repeat (first|exact HB.out|apply below_alloc|apply pw_below_drewN|apply below_drew1|refine below_set ?_ GE197.out)⟩
/-! ### spec_Shape: function 7 -/
mutual
def spec_Shape.l0:Nat→List Int→List Int→Int→Int→Int→Int→Int→List (S79)→List (S81)→List (S84)→Option (List Int)
  |0,_,_,_,_,_,_,_,_,_,_=>none
  |k+1,x1,x5,x6,x202000,x202001,x202002,x202003,x202004,x202005,x202006=>if x6<(x1.length:Int) then (if 0≤x6 then (spec_Shape.l1 k x1 x5 (wrap64 (x6+1)) (rd x1 x6) x202000 x202001 x202002 x202003 x202004 x202005 x202006) else (none)) else (some x5)
def spec_Shape.l1:Nat→List Int→List Int→Int→Int→Int→Int→Int→Int→List (S79)→List (S81)→List (S84)→Option (List Int)
  |0,_,_,_,_,_,_,_,_,_,_,_=>none
  |k+1,x1,x5,x6,x7,x202000,x202001,x202002,x202003,x202004,x202005,x202006=>if x6<(x1.length:Int) then (if 0≤x6 then ((spec_l12Lig.f k x202000 x202001 x202002 x202003 x202004 x202005 x202006 x7 (rd x1 x6)).bind fun bt208=>(if bt208.2=true then (spec_Shape.l1 k x1 x5 (wrap64 (x6+1)) bt208.1 x202000 x202001 x202002 x202003 x202004 x202005 x202006) else (if x5.length<17592186044416 then (spec_Shape.l0 k x1 (x5++[x7]) x6 x202000 x202001 x202002 x202003 x202004 x202005 x202006) else (none)))) else (none)) else (if x5.length<17592186044416 then (spec_Shape.l0 k x1 (x5++[x7]) x6 x202000 x202001 x202002 x202003 x202004 x202005 x202006) else (none))
end
def spec_Shape.f (k:Nat) (a0_0:Int) (a0_1:Int) (a0_2:Int) (a0_3:Int) (l0_4:List (S79)) (l0_5:List (S81)) (l0_6:List (S84)) (l1:List Int):Option (List Int):=(some (([]:List Int):List Int)).bind fun y202=>((spec_FontOk.f k a0_0 a0_1 a0_2 a0_3 l0_4 l0_5 l0_6).bind fun t205=>(if t205=true then (spec_Shape.l0 k l1 y202 0 a0_0 a0_1 a0_2 a0_3 l0_4 l0_5 l0_6) else (some y202)))
theorem spec_Shape.mono_l:∀ k,(∀ y0 y1 y2 y3 y4 y5 y6 y7 y8 y9,LeO (spec_Shape.l0 k y0 y1 y2 y3 y4 y5 y6 y7 y8 y9) (spec_Shape.l0 (k+1) y0 y1 y2 y3 y4 y5 y6 y7 y8 y9))∧(∀ y0 y1 y2 y3 y4 y5 y6 y7 y8 y9 y10,LeO (spec_Shape.l1 k y0 y1 y2 y3 y4 y5 y6 y7 y8 y9 y10) (spec_Shape.l1 (k+1) y0 y1 y2 y3 y4 y5 y6 y7 y8 y9 y10))
 |0=>⟨fun _ _ _ _ _ _ _ _ _ _ r h=>by simp [spec_Shape.l0] at h,fun _ _ _ _ _ _ _ _ _ _ _ r h=>by simp [spec_Shape.l1] at h⟩
 |k+1=>by
  obtain ⟨ih0,ih1⟩:=spec_Shape.mono_l k
  refine ⟨?_,?_⟩
  ·intro y0 y1 y2 y3 y4 y5 y6 y7 y8 y9
   unfold spec_Shape.l0
   repeat' first
  |(with_reducible exact ih0 _ _ _ _ _ _ _ _ _ _)
  |(with_reducible exact ih1 _ _ _ _ _ _ _ _ _ _ _)
  |(with_reducible exact spec_FontOk.mono _ _ _ _ _ _ _ _)
  |(with_reducible exact spec_l12Lig.mono _ _ _ _ _ _ _ _ _ _)
  |(with_reducible exact LeO.refl _)
  |(with_reducible exact LeO.none _)
  |(with_reducible refine LeO.ite ?_ ?_)
  |(with_reducible refine LeO.bind ?_ (fun _=>?_))
  |exact ih0 _ _ _ _ _ _ _ _ _ _
  |exact ih1 _ _ _ _ _ _ _ _ _ _ _
  |exact spec_FontOk.mono _ _ _ _ _ _ _ _
  |exact spec_l12Lig.mono _ _ _ _ _ _ _ _ _ _
  |exact LeO.none _
  |refine LeO.ite ?_ ?_
  |refine LeO.bind ?_ (fun _=>?_)
  ·intro y0 y1 y2 y3 y4 y5 y6 y7 y8 y9 y10
   unfold spec_Shape.l1
   repeat' first
  |(with_reducible exact ih0 _ _ _ _ _ _ _ _ _ _)
  |(with_reducible exact ih1 _ _ _ _ _ _ _ _ _ _ _)
  |(with_reducible exact spec_FontOk.mono _ _ _ _ _ _ _ _)
  |(with_reducible exact spec_l12Lig.mono _ _ _ _ _ _ _ _ _ _)
  |(with_reducible exact LeO.refl _)
  |(with_reducible exact LeO.none _)
  |(with_reducible refine LeO.ite ?_ ?_)
  |(with_reducible refine LeO.bind ?_ (fun _=>?_))
  |exact ih0 _ _ _ _ _ _ _ _ _ _
  |exact ih1 _ _ _ _ _ _ _ _ _ _ _
  |exact spec_FontOk.mono _ _ _ _ _ _ _ _
  |exact spec_l12Lig.mono _ _ _ _ _ _ _ _ _ _
  |exact LeO.none _
  |refine LeO.ite ?_ ?_
  |refine LeO.bind ?_ (fun _=>?_)
theorem spec_Shape.mono:∀ a0 a1 a2 a3 a4 a5 a6 a7 k,LeO (spec_Shape.f k a0 a1 a2 a3 a4 a5 a6 a7) (spec_Shape.f (k+1) a0 a1 a2 a3 a4 a5 a6 a7):=by
 intro a0 a1 a2 a3 a4 a5 a6 a7 k
 obtain ⟨ih0,ih1⟩:=spec_Shape.mono_l k
 unfold spec_Shape.f
 repeat' first
  |(with_reducible exact ih0 _ _ _ _ _ _ _ _ _ _)
  |(with_reducible exact ih1 _ _ _ _ _ _ _ _ _ _ _)
  |(with_reducible exact spec_FontOk.mono _ _ _ _ _ _ _ _)
  |(with_reducible exact spec_l12Lig.mono _ _ _ _ _ _ _ _ _ _)
  |(with_reducible exact LeO.refl _)
  |(with_reducible exact LeO.none _)
  |(with_reducible refine LeO.ite ?_ ?_)
  |(with_reducible refine LeO.bind ?_ (fun _=>?_))
  |exact ih0 _ _ _ _ _ _ _ _ _ _
  |exact ih1 _ _ _ _ _ _ _ _ _ _ _
  |exact spec_FontOk.mono _ _ _ _ _ _ _ _
  |exact spec_l12Lig.mono _ _ _ _ _ _ _ _ _ _
  |exact LeO.none _
  |refine LeO.ite ?_ ?_
  |refine LeO.bind ?_ (fun _=>?_)
def spec_Shape.T9:Bool×List (List Nat×List Nat):=(true,[([],[]),([],[]),([],[]),([],[]),([2,3],[2,3]),([4],[4]),([0,1,5],[0,1,5]),([6],[6]),([7],[7]),([7],[7]),([8,6,0,1,2,3,4,5,6,7,8],[8]),([9,10,0,1,2,3,4,5,6,7,8,9,10],[9])])
def spec_Shape.B9:List Nat:=[0,0,0,0,12,28,63,127,255,255,511,2047]
theorem spec_Shape.tab9:rtab .any (opsOf Try.f7 9)=spec_Shape.T9:=by kernel_rfl
theorem spec_Shape.bits9:waitsOk spec_Shape.T9.2 spec_Shape.B9=true:=by kernel_rfl
set_option maxHeartbeats 8000000 in
set_option maxRecDepth 100000 in
theorem spec_Shape.calls (k:Nat) (a0_0:Int) (a0_1:Int) (a0_2:Int) (a0_3:Int) (A0_4:Option Addr) (c0_4:Nat) (l0_4:List (S79)) (A0_5:Option Addr) (c0_5:Nat) (l0_5:List (S81)) (A0_6:Option Addr) (c0_6:Nat) (l0_6:List (S84)) (A1:Option Addr) (c1:Nat) (l1:List Int) (r:List Int) (w:World) (hr0_4:Kd.C k79 w A0_4 l0_4.length l0_4) (hc0_4:l0_4.length≤c0_4) (hr0_5:Kd.C k81 w A0_5 l0_5.length l0_5) (hc0_5:l0_5.length≤c0_5) (hr0_6:Kd.C k84 w A0_6 l0_6.length l0_6) (hc0_6:l0_6.length≤c0_6) (hr1:Kd.C (Kd.int .i64) w A1 l1.length l1) (hc1:l1.length≤c1) (h:spec_Shape.f k a0_0 a0_1 a0_2 a0_3 l0_4 l0_5 l0_6 l1=some r) :
  Calls Try.prog 7 #[.agg #[.int .i64 a0_0,.int .i64 a0_1,.int .i64 a0_2,.int .i64 a0_3,.slice A0_4 l0_4.length c0_4,.slice A0_5 l0_5.length c0_5,.slice A0_6 l0_6.length c0_6],.slice A1 l1.length c1] w fun e w'=>∃ v0_:Value,e=.returned (v0_)∧Kd.R (Kd.int .i64) 3 w' w.heap.size (fun _=>True) v0_ r∧Below w.heap.size w w':=by
 have hu34:=Try.underlying34
 have HR0_4:=Aside0.mk hr0_4
 have HC0_4:=Aside0.mk hc0_4
 clear hr0_4 hc0_4
 have HR0_5:=Aside0.mk hr0_5
 have HC0_5:=Aside0.mk hc0_5
 clear hr0_5 hc0_5
 have HR0_6:=Aside0.mk hr0_6
 have HC0_6:=Aside0.mk hc0_6
 clear hr0_6 hc0_6
 have HR1:=Aside0.mk hr1
 have HC1:=Aside0.mk hc1
 clear hr1 hc1
 have HB:=Aside0.mk (Below.refl w.heap.size w)
 have H:((some (([]:List Int):List Int)).bind fun y202=>((spec_FontOk.f k a0_0 a0_1 a0_2 a0_3 l0_4 l0_5 l0_6).bind fun t205=>(if t205=true then (spec_Shape.l0 k l1 y202 0 a0_0 a0_1 a0_2 a0_3 l0_4 l0_5 l0_6) else (some y202))))=some r:=h
 clear h
 obtain ⟨y202,hy202⟩:∃ y_:List Int,y_=(([]:List Int)):=⟨_,rfl⟩
 replace H:((spec_FontOk.f k a0_0 a0_1 a0_2 a0_3 l0_4 l0_5 l0_6).bind fun t205=>(if t205=true then (spec_Shape.l0 k l1 y202 0 a0_0 a0_1 a0_2 a0_3 l0_4 l0_5 l0_6) else (some y202)))=some r:=by first|(rw [hy202];with_reducible exact H)|(have H2_:=(Option.bind_some _ _).symm.trans H;rw [hy202];with_reducible exact H2_)|(have H2_:=(Option.bind_some _ _).symm.trans H;with_reducible exact H2_)|with_reducible exact H|(rw [hy202];exact H)|exact H
 have Ny202:=Aside0.mk hy202
 clear hy202
 replace H:=Option.bind_eq_some_iff.mp H
 obtain ⟨t205,A30,H⟩:=H
 replace H:(if t205=true then (spec_Shape.l0 k l1 y202 0 a0_0 a0_1 a0_2 a0_3 l0_4 l0_5 l0_6) else (some y202))=some r:=H
 have A3:=Aside0.mk A30
 clear A30
 by_cases c4:t205=true
 ·subst c4
  have H1:(spec_Shape.l0 k l1 y202 0 a0_0 a0_1 a0_2 a0_3 l0_4 l0_5 l0_6)=some r:=by rw [if_pos rfl] at H;exact H
  clear H
  have H:=H1
  clear H1
  have H':=Aside0.mk H
  clear H
  go_enter Try.func7,Try.ntmps7
  go_wp2_with (first|((with_reducible refine gate_dst (N:=2) rfl ?_);refine box_event ?hg (N:=2) ?hd (cs:=#[.int .i64 a0_0,.int .i64 a0_1,.int .i64 a0_2,.int .i64 a0_3,.slice A0_4 l0_4.length c0_4,.slice A0_5 l0_5.length c0_5,.slice A0_6 l0_6.length c0_6]) (t:=34) ?hr ?_;(case hd=>rfl);(case hg=>rfl);(case hr=>first|(go_simp;done)|(go_simp;rfl));intro gb201 hg w5 hbox hb;have n0_:=Aside0.mk (below_step (by repeat (first|(with_reducible first|exact HB.out|apply below_alloc|apply pw_below_drewN|apply below_drew1)|exact HB.out)) hb);have n1_:=Aside0.mk (hbox);have n2_:=Aside0.mk ((by rw [hg];exact (below_size (by repeat (first|(with_reducible first|exact HB.out|apply below_alloc|apply pw_below_drewN|apply below_drew1)|exact HB.out))):w.heap.size≤gb201));have n3_:=Aside0.mk ((by rw [hg];exact (below_size (by repeat (first|(with_reducible first|exact HB.out|apply below_alloc|apply pw_below_drewN|apply below_drew1)|exact HB.out))):w.heap.size≤gb201));clear HB;have HB:=n0_;have BK201:=n1_;have GW201:=n2_;have GE201:=n3_;clear n0_ n1_ n2_ n3_;clear hb hbox hg)|((with_reducible refine gate_dst (N:=10) rfl ?_);refine Kd.R_lit (Kd.int .i64) _ 3 ?hg (N:=10) ?hd (xs:=([]:List Int)) (inner:=[]) (ok:=fun _=>True) (okp:=fun _=>True) ?hr ?hp (fun _ hk=>hk) trivial (Below.refl _ _) (Nat.le_refl _) (by simp) ?_;(case hd=>rfl);(case hg=>rfl);(case hr=>first|(go_simp;done)|(go_simp;rfl));(case hp=>exact (Reps.none _ _));intro v203 w6 ho7 hb hg_ hnew_;clear hg_ hnew_;(first|rw [← Ny202.out] at ho7|(simp only [Int.reduceToNat] at ho7;rw [← Ny202.out] at ho7));have n0_:=Aside0.mk (Kd.R_lower ho7 (below_size (by repeat (first|exact HB.out|apply below_alloc|apply pw_below_drewN|apply below_drew1|refine below_set ?_ GE201.out))));have n1_:=Aside0.mk (blk_below (g:=gb201) (o:=.cells #[.int .i64 a0_0,.int .i64 a0_1,.int .i64 a0_2,.int .i64 a0_3,.slice A0_4 l0_4.length c0_4,.slice A0_5 l0_5.length c0_5,.slice A0_6 l0_6.length c0_6] 34 (0,0)) (by (with_reducible repeat (first|refine blk_drewN ?_ _|refine blk_drew ?_|refine blk_alloc ?_ _));exact BK201.out) hb);have n2_:=Aside0.mk (below_step (by repeat (first|exact HB.out|apply below_alloc|apply pw_below_drewN|apply below_drew1|refine below_set ?_ GE201.out)) hb);clear BK201;clear HB;have HO204:=n0_;have BK201:=n1_;have HB:=n2_;clear n0_ n1_ n2_;clear hb ho7;have hcz8_0:w6.cell? ⟨gb201,0,none⟩=some (.int .i64 a0_0):=(blk_cell BK201.out 0).trans rfl;have hcz8_1:w6.cell? ⟨gb201,1,none⟩=some (.int .i64 a0_1):=(blk_cell BK201.out 1).trans rfl;have hcz8_2:w6.cell? ⟨gb201,2,none⟩=some (.int .i64 a0_2):=(blk_cell BK201.out 2).trans rfl;have hcz8_3:w6.cell? ⟨gb201,3,none⟩=some (.int .i64 a0_3):=(blk_cell BK201.out 3).trans rfl;have hcz8_4:w6.cell? ⟨gb201,4,none⟩=some (.slice A0_4 l0_4.length c0_4):=(blk_cell BK201.out 4).trans rfl;have hcz8_5:w6.cell? ⟨gb201,5,none⟩=some (.slice A0_5 l0_5.length c0_5):=(blk_cell BK201.out 5).trans rfl;have hcz8_6:w6.cell? ⟨gb201,6,none⟩=some (.slice A0_6 l0_6.length c0_6):=(blk_cell BK201.out 6).trans rfl;have hfz8_0:=blk_frozen BK201.out 0;have hfz8_1:=blk_frozen BK201.out 1;have hfz8_2:=blk_frozen BK201.out 2;have hfz8_3:=blk_frozen BK201.out 3;have hfz8_4:=blk_frozen BK201.out 4;have hfz8_5:=blk_frozen BK201.out 5;have hfz8_6:=blk_frozen BK201.out 6)|((with_reducible refine gate_callee (f:=22) rfl ?_);refine goesL_ (some 12) rfl rfl Try.func22 (by kernel_rfl) rfl #[.agg #[.int .i64 a0_0,.int .i64 a0_1,.int .i64 a0_2,.int .i64 a0_3,.slice A0_4 l0_4.length c0_4,.slice A0_5 l0_5.length c0_5,.slice A0_6 l0_6.length c0_6]] rfl (by (try simp only [List.map_toArray,List.map_cons,List.map_nil]);first|done|rfl|(simp only [List.length_drop,List.length_take];rfl)) ?_;(with_reducible refine (spec_FontOk.calls k a0_0 a0_1 a0_2 a0_3 _ _ l0_4 _ _ l0_5 _ _ l0_6 true _ ?side1 ?side2 ?side3 ?side4 ?side5 ?side6 A3.out).mono ?_);(case side1=>repeat (first|exact (Kd.C_below HR0_4.out HB.out)|(with_reducible refine Kd.C_alloc ?_ _)|(with_reducible refine Kd.C_drewN ?_ _)|(with_reducible refine Kd.C_drew ?_)));(case side2=>exact HC0_4.out);(case side3=>repeat (first|exact (Kd.C_below HR0_5.out HB.out)|(with_reducible refine Kd.C_alloc ?_ _)|(with_reducible refine Kd.C_drewN ?_ _)|(with_reducible refine Kd.C_drew ?_)));(case side4=>exact HC0_5.out);(case side5=>repeat (first|exact (Kd.C_below HR0_6.out HB.out)|(with_reducible refine Kd.C_alloc ?_ _)|(with_reducible refine Kd.C_drewN ?_ _)|(with_reducible refine Kd.C_drew ?_)));(case side6=>exact HC0_6.out);rintro e w9 ⟨rfl,hb⟩;refine ⟨_,rfl,?_⟩;have n0_:=Aside0.mk (Kd.R_below (by (with_reducible repeat (first|apply Kd.R_alloc|apply Kd.R_drewN|apply Kd.R_drew));exact HO204.out) hb);have n1_:=Aside0.mk (blk_below (g:=gb201) (o:=.cells #[.int .i64 a0_0,.int .i64 a0_1,.int .i64 a0_2,.int .i64 a0_3,.slice A0_4 l0_4.length c0_4,.slice A0_5 l0_5.length c0_5,.slice A0_6 l0_6.length c0_6] 34 (0,0)) (by (with_reducible repeat (first|refine blk_drewN ?_ _|refine blk_drew ?_|refine blk_alloc ?_ _));exact BK201.out) hb);have n2_:=Aside0.mk (below_step (by repeat (first|exact HB.out|apply below_alloc|apply pw_below_drewN|apply below_drew1|refine below_set ?_ GE201.out)) hb);clear HO204;clear BK201;clear HB;have HO204:=n0_;have BK201:=n1_;have HB:=n2_;clear n0_ n1_ n2_;(try clear hb);(try clear hb2);(try clear hk);(try clear hi)))
  go_loopg [5,6] k (fun kq v5 v6 w'=>∃ (x5_1:List Int) (x6_1:Int),v6=.int .i64 x6_1∧Aside0 (spec_Shape.l0 kq l1 x5_1 x6_1 a0_0 a0_1 a0_2 a0_3 l0_4 l0_5 l0_6=some r)∧Aside0 (kq≤k)∧Aside0 (Kd.R (Kd.int .i64) 3 w' w.heap.size (fun _=>True) v5 x5_1)∧Aside0 (w'.heap[gb201]?=some (.cells #[.int .i64 a0_0,.int .i64 a0_1,.int .i64 a0_2,.int .i64 a0_3,(.slice A0_4 l0_4.length c0_4),(.slice A0_5 l0_5.length c0_5),(.slice A0_6 l0_6.length c0_6)] 34 (0,0)))∧Aside0 (Below w.heap.size w w'))
  case atStart=>exact ⟨(y202),(0),(by first|rfl|(simp;done)|(simp [*];done)),H',⟨Nat.le_refl _⟩,⟨by (with_reducible repeat (first|apply Kd.R_alloc|apply Kd.R_drewN|apply Kd.R_drew));exact HO204.out⟩,⟨by (with_reducible repeat (first|refine blk_drewN ?_ _|refine blk_drew ?_|refine blk_alloc ?_ _));exact BK201.out⟩,⟨by repeat (first|exact HB.out|apply below_alloc|apply pw_below_drewN|apply below_drew1|refine below_set ?_ GE201.out)⟩⟩
  case round=>
   clear H'
   try clear c1;try clear c2;try clear p2;try clear c4;try clear c7;try clear hcz8_0;try clear hcz8_1;try clear hcz8_2;try clear hcz8_3;try clear hcz8_4;try clear hcz8_5;try clear hcz8_6;try clear hfz8_0;try clear hfz8_1;try clear hfz8_2;try clear hfz8_3;try clear hfz8_4;try clear hfz8_5;try clear hfz8_6
   obtain ⟨x5_1,x6_1,rfl,HA,HK1,HO_5,BK201,HB⟩:=hrel
   cases gk with
  |zero=>exact absurd HA.out (by simp [spec_Shape.l0])
  |succ k1=>
    have H:=HA.out
    clear HA
    simp only [spec_Shape.l0] at H
    by_cases c10:x6_1<(l1.length:Int)
    ·rw [if_pos c10] at H
     have c10b0:decide (x6_1<(l1.length:Int))=true:=decide_eq_true c10
     clear c10
     by_cases c11:0≤x6_1
     ·rw [if_pos c11] at H
      have c11b0:decide (0≤x6_1)=true:=decide_eq_true c11
      clear c11
      have H':=Aside0.mk H
      clear H
      have p206:0≤(x6_1:Int):=of_decide_eq_true (by first|(with_reducible assumption)|assumption)
      have q206:x6_1<(l1.length:Int):=of_decide_eq_true (by first|(with_reducible assumption)|assumption)
      obtain ⟨ad206,e206,hx206_0⟩:=Kd.at_int HR1.out x6_1 p206 q206
      cases e206
      replace hx206_0:=pw_cell_below HB.out hx206_0
      replace p206:=eq_true p206
      replace q206:=eq_true q206
      go_wp2
      go_loopg [6,7] k1 (fun kq v6 v7 w'=>∃ (x6_2:Int) (x7_2:Int),v6=.int .i64 x6_2∧v7=.int .i64 x7_2∧Aside0 (spec_Shape.l1 kq l1 x5_1 x6_2 x7_2 a0_0 a0_1 a0_2 a0_3 l0_4 l0_5 l0_6=some r)∧Aside0 (kq≤k1)∧Aside0 (Kd.R (Kd.int .i64) 3 w' w.heap.size (fun _=>True) u5 x5_1)∧Aside0 (w'.heap[gb201]?=some (.cells #[.int .i64 a0_0,.int .i64 a0_1,.int .i64 a0_2,.int .i64 a0_3,(.slice A0_4 l0_4.length c0_4),(.slice A0_5 l0_5.length c0_5),(.slice A0_6 l0_6.length c0_6)] 34 (0,0)))∧Aside0 (Below w.heap.size w w'))
      case atStart=>exact ⟨(wrap64 (x6_1+1)),(rd l1 x6_1),(by first|rfl|(simp;done)|(simp [*];done)),(by first|rfl|(simp;done)|(simp [*];done)),H',⟨Nat.le_refl _⟩,⟨by (with_reducible repeat (first|apply Kd.R_alloc|apply Kd.R_drewN|apply Kd.R_drew));exact HO_5.out⟩,⟨by (with_reducible repeat (first|refine blk_drewN ?_ _|refine blk_drew ?_|refine blk_alloc ?_ _));exact BK201.out⟩,⟨by repeat (first|exact HB.out|apply below_alloc|apply pw_below_drewN|apply below_drew1|refine below_set ?_ GE201.out)⟩⟩
      case round=>
       clear H'
       try clear c1;try clear c2;try clear p2;try clear q2;try clear hx2;try clear c4;try clear p6;try clear c7;try clear c10;try clear c10b0;try clear c11;try clear c11b0;try clear hcz8_0;try clear hcz8_1;try clear hcz8_2;try clear hcz8_3;try clear hcz8_4;try clear hcz8_5;try clear hcz8_6;try clear hfz8_0;try clear hfz8_1;try clear hfz8_2;try clear hfz8_3;try clear hfz8_4;try clear hfz8_5;try clear hfz8_6;try clear hx206_0;try clear p2;try clear p206;try clear q206
       obtain ⟨x6_2,x7_2,rfl,rfl,HA,HK2,HO_5,BK201,HB⟩:=hrel
       cases gk with
      |zero=>exact absurd HA.out (by simp [spec_Shape.l1])
      |succ k2=>
        have H:=HA.out
        clear HA
        simp only [spec_Shape.l1] at H
        by_cases c12:x6_2<(l1.length:Int)
        ·rw [if_pos c12] at H
         have c12b0:decide (x6_2<(l1.length:Int))=true:=decide_eq_true c12
         clear c12
         by_cases c13:0≤x6_2
         ·rw [if_pos c13] at H
          have c13b0:decide (0≤x6_2)=true:=decide_eq_true c13
          clear c13
          replace H:=Option.bind_eq_some_iff.mp H
          obtain ⟨⟨t208,t209⟩,A140,H⟩:=H
          replace H:(if t209=true then (spec_Shape.l1 k2 l1 x5_1 (wrap64 (x6_2+1)) t208 a0_0 a0_1 a0_2 a0_3 l0_4 l0_5 l0_6) else (if x5_1.length<17592186044416 then (spec_Shape.l0 k2 l1 (x5_1++[x7_2]) x6_2 a0_0 a0_1 a0_2 a0_3 l0_4 l0_5 l0_6) else (none)))=some r:=H
          have A14:=Aside0.mk A140
          clear A140
          by_cases c15:t209=true
          ·subst c15
           have H1:(spec_Shape.l1 k2 l1 x5_1 (wrap64 (x6_2+1)) t208 a0_0 a0_1 a0_2 a0_3 l0_4 l0_5 l0_6)=some r:=by rw [if_pos rfl] at H;exact H
           clear H
           have H:=H1
           clear H1
           have H':=Aside0.mk H
           clear H
           try go_wp2
           have n0_:=Aside0.mk (Kd.R_drew HO_5.out)
           have n1_:=Aside0.mk (blk_drew BK201.out)
           have n2_:=Aside0.mk (below_drew1 HB.out)
           clear HO_5
           clear BK201
           clear HB
           have HO_5:=n0_
           have BK201:=n1_
           have HB:=n2_
           clear n0_ n1_ n2_
           have p207:0≤(x6_2:Int):=of_decide_eq_true (by first|(with_reducible assumption)|assumption)
           have q207:x6_2<(l1.length:Int):=of_decide_eq_true (by first|(with_reducible assumption)|assumption)
           obtain ⟨ad207,e207,hx207_0⟩:=Kd.at_int HR1.out x6_2 p207 q207
           have hw207_0:=hx207_0
           obtain rfl:ad206=ad207:=(by injection e207)
           replace hx207_0:=pw_cell_below HB.out hx207_0
           replace p207:=eq_true p207
           replace q207:=eq_true q207
           refine start_ (n:=12) (S:=fun w'=>w'.cell? ⟨gb201,0,none⟩=some (.int .i64 a0_0)∧w'.cell? ⟨gb201,1,none⟩=some (.int .i64 a0_1)∧w'.cell? ⟨gb201,2,none⟩=some (.int .i64 a0_2)∧w'.cell? ⟨gb201,3,none⟩=some (.int .i64 a0_3)∧w'.cell? ⟨gb201,4,none⟩=some (.slice A0_4 l0_4.length c0_4)∧w'.cell? ⟨gb201,5,none⟩=some (.slice A0_5 l0_5.length c0_5)∧w'.cell? ⟨gb201,6,none⟩=some (.slice A0_6 l0_6.length c0_6)∧w'.cell? (ad206.add (x6_2).toNat)=some (.int .i64 (rd l1 x6_2))) (ds:=[]) #[false,false,false,false,false,false,false,false,false,false,false,false] (by kernel_rfl) rfl rfl ⟨(blk_cell BK201.out 0).trans rfl,(blk_cell BK201.out 1).trans rfl,(blk_cell BK201.out 2).trans rfl,(blk_cell BK201.out 3).trans rfl,(blk_cell BK201.out 4).trans rfl,(blk_cell BK201.out 5).trans rfl,(blk_cell BK201.out 6).trans rfl,((HB.out.cell (World.block_lt_of_cell? w _ hw207_0)).trans hw207_0)⟩ (fun hHeld=>?_);refine with_tabW spec_Shape.tab9 spec_Shape.bits9 (fun HT_ HW_=>?_)
           generalize wr.drew=w16 at HO_5 BK201 HB hx207_0 hHeld ⊢
           refine pure_ (i:=1) (N:=some 31) (v:=?_) (a':=?_) #[false,true,false,false,false,false,false,false,false,false,false,false] rfl rfl (any_of HT_.out (by kernel_rfl)) (fun _ _ _ h=>h) (Or.inl ⟨by rfl,?_⟩) ?_ ?_
           rotate_left
           ·intro w'
            go_simp
            with_reducible rfl
           rotate_left
           ·simp only [Act.put,List.setIfInBounds_toArray,List.set_cons_zero,List.set_cons_succ,i64_w,i32_w]
            rfl
           refine pure_ (i:=2) (N:=some 32) (v:=?_) (a':=?_) #[false,true,true,false,false,false,false,false,false,false,false,false] rfl rfl (any_of HT_.out (by kernel_rfl)) (fun _ _ _ h=>h) (Or.inl ⟨by rfl,?_⟩) ?_ ?_
           rotate_left
           ·intro w'
            go_simp
            with_reducible rfl
           rotate_left
           ·simp only [Act.put,List.setIfInBounds_toArray,List.set_cons_zero,List.set_cons_succ,i64_w,i32_w]
            rfl
           refine pure_ (i:=3) (N:=some 33) (v:=?_) (a':=?_) #[false,true,true,true,false,false,false,false,false,false,false,false] rfl rfl (any_of HT_.out (by kernel_rfl)) (fun _ _ _ h=>h) (Or.inl ⟨by rfl,?_⟩) ?_ ?_
           rotate_left
           ·intro w'
            go_simp
            with_reducible rfl
           rotate_left
           ·simp only [Act.put,List.setIfInBounds_toArray,List.set_cons_zero,List.set_cons_succ,i64_w,i32_w]
            rfl
           refine pure_ (i:=4) (N:=some 34) (v:=?_) (a':=?_) #[false,true,true,true,true,false,false,false,false,false,false,false] rfl rfl (any_of HT_.out (by kernel_rfl)) (fun _ _ _ h=>h) (Or.inl ⟨by rfl,?_⟩) ?_ ?_
           rotate_left
           ·intro w'
            go_simp
            with_reducible rfl
           rotate_left
           ·simp only [Act.put,List.setIfInBounds_toArray,List.set_cons_zero,List.set_cons_succ,i64_w,i32_w]
            rfl
           refine take_ (i:=0) (N:=some 30) (v:=?_) (a':=?_) #[true,true,true,true,true,false,false,false,false,false,false,false] rfl rfl (take_ofW HT_.out HW_.out (by kernel_rfl)) (fun _ _ _ h=>h) (Or.inl ⟨by rfl,?_⟩) hHeld ?_ ?_
           rotate_left
           ·rintro w' ⟨s0,s1,s2,s3,s4,s5,s6,s7⟩
            go_simp
            with_reducible rfl
           rotate_left
           ·simp only [Act.put,List.setIfInBounds_toArray,List.set_cons_zero,List.set_cons_succ,i64_w,i32_w]
            rfl
           refine take_ (i:=5) (N:=some 35) (v:=?_) (a':=?_) #[true,true,true,true,true,true,false,false,false,false,false,false] rfl rfl (take_ofW HT_.out HW_.out (by kernel_rfl)) (fun _ _ _ h=>h) (Or.inl ⟨by rfl,?_⟩) hHeld ?_ ?_
           rotate_left
           ·rintro w' ⟨s0,s1,s2,s3,s4,s5,s6,s7⟩
            go_simp
            with_reducible rfl
           rotate_left
           ·simp only [Act.put,List.setIfInBounds_toArray,List.set_cons_zero,List.set_cons_succ,i64_w,i32_w]
            rfl
           refine one_ (i:=6) (N:=some 36) #[true,true,true,true,true,true,true,false,false,false,false,false] rfl rfl (one_of HT_.out (by kernel_rfl)) (by decide) (fun K hK=>?_)
           refine goes_ Try.func27 (by kernel_rfl) rfl #[.agg #[.int .i64 a0_0,.int .i64 a0_1,.int .i64 a0_2,.int .i64 a0_3,.slice A0_4 l0_4.length c0_4,.slice A0_5 l0_5.length c0_5,.slice A0_6 l0_6.length c0_6],.int .i64 x7_2,.int .i64 (rd l1 x6_2)] (by rfl) rfl rfl (by (try simp only [List.map_toArray,List.map_cons,List.map_nil]);first|done|rfl|(simp only [List.length_drop,List.length_take];rfl)) ?_
           with_reducible refine (spec_l12Lig.calls k2 a0_0 a0_1 a0_2 a0_3 _ _ l0_4 _ _ l0_5 _ _ l0_6 x7_2 (rd l1 x6_2) t208 true _ ?side1 ?side2 ?side3 ?side4 ?side5 ?side6 A14.out).mono ?_
           (case side1=>repeat (first|exact (Kd.C_below HR0_4.out HB.out)|(with_reducible refine Kd.C_alloc ?_ _)|(with_reducible refine Kd.C_drewN ?_ _)|(with_reducible refine Kd.C_drew ?_)))
           (case side2=>exact HC0_4.out)
           (case side3=>repeat (first|exact (Kd.C_below HR0_5.out HB.out)|(with_reducible refine Kd.C_alloc ?_ _)|(with_reducible refine Kd.C_drewN ?_ _)|(with_reducible refine Kd.C_drew ?_)))
           (case side4=>exact HC0_5.out)
           (case side5=>repeat (first|exact (Kd.C_below HR0_6.out HB.out)|(with_reducible refine Kd.C_alloc ?_ _)|(with_reducible refine Kd.C_drewN ?_ _)|(with_reducible refine Kd.C_drew ?_)))
           (case side6=>exact HC0_6.out)
           rintro e w17 ⟨rfl,hb⟩
           refine ⟨_,rfl,?_⟩
           have n0_:=Aside0.mk (Kd.R_below (by (with_reducible repeat (first|apply Kd.R_alloc|apply Kd.R_drewN|apply Kd.R_drew));exact HO_5.out) hb)
           have n1_:=Aside0.mk (blk_below (g:=gb201) (o:=.cells #[.int .i64 a0_0,.int .i64 a0_1,.int .i64 a0_2,.int .i64 a0_3,.slice A0_4 l0_4.length c0_4,.slice A0_5 l0_5.length c0_5,.slice A0_6 l0_6.length c0_6] 34 (0,0)) (by (with_reducible repeat (first|refine blk_drewN ?_ _|refine blk_drew ?_|refine blk_alloc ?_ _));exact BK201.out) hb)
           have n2_:=Aside0.mk (below_step (by repeat (first|exact HB.out|apply below_alloc|apply pw_below_drewN|apply below_drew1|refine below_set ?_ GE201.out)) hb)
           clear HO_5
           clear BK201
           clear HB
           have HO_5:=n0_
           have BK201:=n1_
           have HB:=n2_
           clear n0_ n1_ n2_
           (try clear hb)
           (try clear hb2)
           (try clear hk)
           (try clear hi)
           refine hK.out _ _ ⟨(blk_cell BK201.out 0).trans rfl,(blk_cell BK201.out 1).trans rfl,(blk_cell BK201.out 2).trans rfl,(blk_cell BK201.out 3).trans rfl,(blk_cell BK201.out 4).trans rfl,(blk_cell BK201.out 5).trans rfl,(blk_cell BK201.out 6).trans rfl,((HB.out.cell (World.block_lt_of_cell? w _ hw207_0)).trans hw207_0)⟩ (fun hHeld=>?_)
           clear hK K
           refine norm_ (a':=?_) ?_ ?_
           rotate_left
           ·show Act.put _ (some 36) _=_
            simp only [Act.put,List.setIfInBounds_toArray,List.set_cons_zero,List.set_cons_succ,i64_w,i32_w]
            rfl
           refine pure_ (i:=7) (N:=some 29) (v:=?_) (a':=?_) #[true,true,true,true,true,true,true,true,false,false,false,false] rfl rfl (any_of HT_.out (by kernel_rfl)) (fun _ _ _ h=>h) (Or.inl ⟨by rfl,?_⟩) ?_ ?_
           rotate_left
           ·intro w'
            go_simp
            with_reducible rfl
           rotate_left
           ·simp only [Act.put,List.setIfInBounds_toArray,List.set_cons_zero,List.set_cons_succ,i64_w,i32_w]
            rfl
           refine pure_ (i:=8) (N:=some 37) (v:=?_) (a':=?_) #[true,true,true,true,true,true,true,true,true,false,false,false] rfl rfl (any_of HT_.out (by kernel_rfl)) (fun _ _ _ h=>h) (Or.inl ⟨by rfl,?_⟩) ?_ ?_
           rotate_left
           ·intro w'
            go_simp
            with_reducible rfl
           rotate_left
           ·simp only [Act.put,List.setIfInBounds_toArray,List.set_cons_zero,List.set_cons_succ,i64_w,i32_w]
            rfl
           refine pure_ (i:=9) (N:=some 38) (v:=?_) (a':=?_) #[true,true,true,true,true,true,true,true,true,true,false,false] rfl rfl (any_of HT_.out (by kernel_rfl)) (fun _ _ _ h=>h) (Or.inl ⟨by rfl,?_⟩) ?_ ?_
           rotate_left
           ·intro w'
            go_simp
            with_reducible rfl
           rotate_left
           ·simp only [Act.put,List.setIfInBounds_toArray,List.set_cons_zero,List.set_cons_succ,i64_w,i32_w]
            rfl
           refine pure_ (i:=10) (N:=some 8) (v:=?_) (a':=?_) #[true,true,true,true,true,true,true,true,true,true,true,false] rfl rfl (any_of HT_.out (by kernel_rfl)) (fun _ _ _ h=>h) (Or.inl ⟨by rfl,?_⟩) ?_ ?_
           rotate_left
           ·intro w'
            go_simp
            with_reducible rfl
           rotate_left
           ·simp only [Act.put,List.setIfInBounds_toArray,List.set_cons_zero,List.set_cons_succ,i64_w,i32_w]
            rfl
           refine pure_ (i:=11) (N:=some 9) (v:=?_) (a':=?_) #[true,true,true,true,true,true,true,true,true,true,true,true] rfl rfl (any_of HT_.out (by kernel_rfl)) (fun _ _ _ h=>h) (Or.inl ⟨by rfl,?_⟩) ?_ ?_
           rotate_left
           ·intro w'
            go_simp
            with_reducible rfl
           rotate_left
           ·simp only [Act.put,List.setIfInBounds_toArray,List.set_cons_zero,List.set_cons_succ,i64_w,i32_w]
            rfl
           refine done_ (done_of HT_.out (by kernel_rfl)) ?_
           try go_wp2
           go_roundg k2
           case measure=>have:=HK1.out;have:=HK2.out;omega
           case rel=>exact ⟨(wrap64 (x6_2+1)),(t208),(by first|rfl|(simp;done)|(simp [*];done)),(by first|rfl|(simp;done)|(simp [*];done)),H',⟨by have:=HK1.out;have:=HK2.out;omega⟩,⟨by (with_reducible repeat (first|apply Kd.R_alloc|apply Kd.R_drewN|apply Kd.R_drew));exact HO_5.out⟩,⟨by (with_reducible repeat (first|refine blk_drewN ?_ _|refine blk_drew ?_|refine blk_alloc ?_ _));exact BK201.out⟩,⟨by repeat (first|exact HB.out|apply below_alloc|apply pw_below_drewN|apply below_drew1|refine below_set ?_ GE201.out)⟩⟩
          ·replace c15:=Bool.eq_false_iff.mpr c15
           subst c15
           have H1:(if x5_1.length<17592186044416 then (spec_Shape.l0 k2 l1 (x5_1++[x7_2]) x6_2 a0_0 a0_1 a0_2 a0_3 l0_4 l0_5 l0_6) else (none))=some r:=by rw [if_neg (show ¬ (false=true) by decide)] at H;exact H
           clear H
           have H:=H1
           clear H1
           by_cases c18:x5_1.length<17592186044416
           ·rw [if_pos c18] at H
            have LMc18:=Aside0.mk c18
            clear c18
            obtain ⟨y210,hy210⟩:∃ y_:List Int,y_=(x5_1++[x7_2]):=⟨_,rfl⟩
            replace H:(spec_Shape.l0 k2 l1 y210 x6_2 a0_0 a0_1 a0_2 a0_3 l0_4 l0_5 l0_6)=some r:=by first|(rw [hy210];with_reducible exact H)|(have H2_:=(Option.bind_some _ _).symm.trans H;rw [hy210];with_reducible exact H2_)|(have H2_:=(Option.bind_some _ _).symm.trans H;with_reducible exact H2_)|with_reducible exact H|(rw [hy210];exact H)|exact H
            have Ny210:=Aside0.mk hy210
            clear hy210
            have H':=Aside0.mk H
            clear H
            try go_wp2
            have n0_:=Aside0.mk (Kd.R_drew HO_5.out)
            have n1_:=Aside0.mk (blk_drew BK201.out)
            have n2_:=Aside0.mk (below_drew1 HB.out)
            clear HO_5
            clear BK201
            clear HB
            have HO_5:=n0_
            have BK201:=n1_
            have HB:=n2_
            clear n0_ n1_ n2_
            have p207:0≤(x6_2:Int):=of_decide_eq_true (by first|(with_reducible assumption)|assumption)
            have q207:x6_2<(l1.length:Int):=of_decide_eq_true (by first|(with_reducible assumption)|assumption)
            obtain ⟨ad207,e207,hx207_0⟩:=Kd.at_int HR1.out x6_2 p207 q207
            have hw207_0:=hx207_0
            obtain rfl:ad206=ad207:=(by injection e207)
            replace hx207_0:=pw_cell_below HB.out hx207_0
            replace p207:=eq_true p207
            replace q207:=eq_true q207
            refine start_ (n:=12) (S:=fun w'=>w'.cell? ⟨gb201,0,none⟩=some (.int .i64 a0_0)∧w'.cell? ⟨gb201,1,none⟩=some (.int .i64 a0_1)∧w'.cell? ⟨gb201,2,none⟩=some (.int .i64 a0_2)∧w'.cell? ⟨gb201,3,none⟩=some (.int .i64 a0_3)∧w'.cell? ⟨gb201,4,none⟩=some (.slice A0_4 l0_4.length c0_4)∧w'.cell? ⟨gb201,5,none⟩=some (.slice A0_5 l0_5.length c0_5)∧w'.cell? ⟨gb201,6,none⟩=some (.slice A0_6 l0_6.length c0_6)∧w'.cell? (ad206.add (x6_2).toNat)=some (.int .i64 (rd l1 x6_2))) (ds:=[]) #[false,false,false,false,false,false,false,false,false,false,false,false] (by kernel_rfl) rfl rfl ⟨(blk_cell BK201.out 0).trans rfl,(blk_cell BK201.out 1).trans rfl,(blk_cell BK201.out 2).trans rfl,(blk_cell BK201.out 3).trans rfl,(blk_cell BK201.out 4).trans rfl,(blk_cell BK201.out 5).trans rfl,(blk_cell BK201.out 6).trans rfl,((HB.out.cell (World.block_lt_of_cell? w _ hw207_0)).trans hw207_0)⟩ (fun hHeld=>?_);refine with_tabW spec_Shape.tab9 spec_Shape.bits9 (fun HT_ HW_=>?_)
            generalize wr.drew=w19 at HO_5 BK201 HB hx207_0 hHeld ⊢
            refine pure_ (i:=1) (N:=some 31) (v:=?_) (a':=?_) #[false,true,false,false,false,false,false,false,false,false,false,false] rfl rfl (any_of HT_.out (by kernel_rfl)) (fun _ _ _ h=>h) (Or.inl ⟨by rfl,?_⟩) ?_ ?_
            rotate_left
            ·intro w'
             go_simp
             with_reducible rfl
            rotate_left
            ·simp only [Act.put,List.setIfInBounds_toArray,List.set_cons_zero,List.set_cons_succ,i64_w,i32_w]
             rfl
            refine pure_ (i:=2) (N:=some 32) (v:=?_) (a':=?_) #[false,true,true,false,false,false,false,false,false,false,false,false] rfl rfl (any_of HT_.out (by kernel_rfl)) (fun _ _ _ h=>h) (Or.inl ⟨by rfl,?_⟩) ?_ ?_
            rotate_left
            ·intro w'
             go_simp
             with_reducible rfl
            rotate_left
            ·simp only [Act.put,List.setIfInBounds_toArray,List.set_cons_zero,List.set_cons_succ,i64_w,i32_w]
             rfl
            refine pure_ (i:=3) (N:=some 33) (v:=?_) (a':=?_) #[false,true,true,true,false,false,false,false,false,false,false,false] rfl rfl (any_of HT_.out (by kernel_rfl)) (fun _ _ _ h=>h) (Or.inl ⟨by rfl,?_⟩) ?_ ?_
            rotate_left
            ·intro w'
             go_simp
             with_reducible rfl
            rotate_left
            ·simp only [Act.put,List.setIfInBounds_toArray,List.set_cons_zero,List.set_cons_succ,i64_w,i32_w]
             rfl
            refine pure_ (i:=4) (N:=some 34) (v:=?_) (a':=?_) #[false,true,true,true,true,false,false,false,false,false,false,false] rfl rfl (any_of HT_.out (by kernel_rfl)) (fun _ _ _ h=>h) (Or.inl ⟨by rfl,?_⟩) ?_ ?_
            rotate_left
            ·intro w'
             go_simp
             with_reducible rfl
            rotate_left
            ·simp only [Act.put,List.setIfInBounds_toArray,List.set_cons_zero,List.set_cons_succ,i64_w,i32_w]
             rfl
            refine take_ (i:=0) (N:=some 30) (v:=?_) (a':=?_) #[true,true,true,true,true,false,false,false,false,false,false,false] rfl rfl (take_ofW HT_.out HW_.out (by kernel_rfl)) (fun _ _ _ h=>h) (Or.inl ⟨by rfl,?_⟩) hHeld ?_ ?_
            rotate_left
            ·rintro w' ⟨s0,s1,s2,s3,s4,s5,s6,s7⟩
             go_simp
             with_reducible rfl
            rotate_left
            ·simp only [Act.put,List.setIfInBounds_toArray,List.set_cons_zero,List.set_cons_succ,i64_w,i32_w]
             rfl
            refine take_ (i:=5) (N:=some 35) (v:=?_) (a':=?_) #[true,true,true,true,true,true,false,false,false,false,false,false] rfl rfl (take_ofW HT_.out HW_.out (by kernel_rfl)) (fun _ _ _ h=>h) (Or.inl ⟨by rfl,?_⟩) hHeld ?_ ?_
            rotate_left
            ·rintro w' ⟨s0,s1,s2,s3,s4,s5,s6,s7⟩
             go_simp
             with_reducible rfl
            rotate_left
            ·simp only [Act.put,List.setIfInBounds_toArray,List.set_cons_zero,List.set_cons_succ,i64_w,i32_w]
             rfl
            refine one_ (i:=6) (N:=some 36) #[true,true,true,true,true,true,true,false,false,false,false,false] rfl rfl (one_of HT_.out (by kernel_rfl)) (by decide) (fun K hK=>?_)
            refine goes_ Try.func27 (by kernel_rfl) rfl #[.agg #[.int .i64 a0_0,.int .i64 a0_1,.int .i64 a0_2,.int .i64 a0_3,.slice A0_4 l0_4.length c0_4,.slice A0_5 l0_5.length c0_5,.slice A0_6 l0_6.length c0_6],.int .i64 x7_2,.int .i64 (rd l1 x6_2)] (by rfl) rfl rfl (by (try simp only [List.map_toArray,List.map_cons,List.map_nil]);first|done|rfl|(simp only [List.length_drop,List.length_take];rfl)) ?_
            with_reducible refine (spec_l12Lig.calls k2 a0_0 a0_1 a0_2 a0_3 _ _ l0_4 _ _ l0_5 _ _ l0_6 x7_2 (rd l1 x6_2) t208 false _ ?side1 ?side2 ?side3 ?side4 ?side5 ?side6 A14.out).mono ?_
            (case side1=>repeat (first|exact (Kd.C_below HR0_4.out HB.out)|(with_reducible refine Kd.C_alloc ?_ _)|(with_reducible refine Kd.C_drewN ?_ _)|(with_reducible refine Kd.C_drew ?_)))
            (case side2=>exact HC0_4.out)
            (case side3=>repeat (first|exact (Kd.C_below HR0_5.out HB.out)|(with_reducible refine Kd.C_alloc ?_ _)|(with_reducible refine Kd.C_drewN ?_ _)|(with_reducible refine Kd.C_drew ?_)))
            (case side4=>exact HC0_5.out)
            (case side5=>repeat (first|exact (Kd.C_below HR0_6.out HB.out)|(with_reducible refine Kd.C_alloc ?_ _)|(with_reducible refine Kd.C_drewN ?_ _)|(with_reducible refine Kd.C_drew ?_)))
            (case side6=>exact HC0_6.out)
            rintro e w20 ⟨rfl,hb⟩
            refine ⟨_,rfl,?_⟩
            have n0_:=Aside0.mk (Kd.R_below (by (with_reducible repeat (first|apply Kd.R_alloc|apply Kd.R_drewN|apply Kd.R_drew));exact HO_5.out) hb)
            have n1_:=Aside0.mk (blk_below (g:=gb201) (o:=.cells #[.int .i64 a0_0,.int .i64 a0_1,.int .i64 a0_2,.int .i64 a0_3,.slice A0_4 l0_4.length c0_4,.slice A0_5 l0_5.length c0_5,.slice A0_6 l0_6.length c0_6] 34 (0,0)) (by (with_reducible repeat (first|refine blk_drewN ?_ _|refine blk_drew ?_|refine blk_alloc ?_ _));exact BK201.out) hb)
            have n2_:=Aside0.mk (below_step (by repeat (first|exact HB.out|apply below_alloc|apply pw_below_drewN|apply below_drew1|refine below_set ?_ GE201.out)) hb)
            clear HO_5
            clear BK201
            clear HB
            have HO_5:=n0_
            have BK201:=n1_
            have HB:=n2_
            clear n0_ n1_ n2_
            (try clear hb)
            (try clear hb2)
            (try clear hk)
            (try clear hi)
            refine hK.out _ _ ⟨(blk_cell BK201.out 0).trans rfl,(blk_cell BK201.out 1).trans rfl,(blk_cell BK201.out 2).trans rfl,(blk_cell BK201.out 3).trans rfl,(blk_cell BK201.out 4).trans rfl,(blk_cell BK201.out 5).trans rfl,(blk_cell BK201.out 6).trans rfl,((HB.out.cell (World.block_lt_of_cell? w _ hw207_0)).trans hw207_0)⟩ (fun hHeld=>?_)
            clear hK K
            refine norm_ (a':=?_) ?_ ?_
            rotate_left
            ·show Act.put _ (some 36) _=_
             simp only [Act.put,List.setIfInBounds_toArray,List.set_cons_zero,List.set_cons_succ,i64_w,i32_w]
             rfl
            refine pure_ (i:=7) (N:=some 29) (v:=?_) (a':=?_) #[true,true,true,true,true,true,true,true,false,false,false,false] rfl rfl (any_of HT_.out (by kernel_rfl)) (fun _ _ _ h=>h) (Or.inl ⟨by rfl,?_⟩) ?_ ?_
            rotate_left
            ·intro w'
             go_simp
             with_reducible rfl
            rotate_left
            ·simp only [Act.put,List.setIfInBounds_toArray,List.set_cons_zero,List.set_cons_succ,i64_w,i32_w]
             rfl
            refine pure_ (i:=8) (N:=some 37) (v:=?_) (a':=?_) #[true,true,true,true,true,true,true,true,true,false,false,false] rfl rfl (any_of HT_.out (by kernel_rfl)) (fun _ _ _ h=>h) (Or.inl ⟨by rfl,?_⟩) ?_ ?_
            rotate_left
            ·intro w'
             go_simp
             with_reducible rfl
            rotate_left
            ·simp only [Act.put,List.setIfInBounds_toArray,List.set_cons_zero,List.set_cons_succ,i64_w,i32_w]
             rfl
            refine pure_ (i:=9) (N:=some 38) (v:=?_) (a':=?_) #[true,true,true,true,true,true,true,true,true,true,false,false] rfl rfl (any_of HT_.out (by kernel_rfl)) (fun _ _ _ h=>h) (Or.inl ⟨by rfl,?_⟩) ?_ ?_
            rotate_left
            ·intro w'
             go_simp
             with_reducible rfl
            rotate_left
            ·simp only [Act.put,List.setIfInBounds_toArray,List.set_cons_zero,List.set_cons_succ,i64_w,i32_w]
             rfl
            refine pure_ (i:=10) (N:=some 8) (v:=?_) (a':=?_) #[true,true,true,true,true,true,true,true,true,true,true,false] rfl rfl (any_of HT_.out (by kernel_rfl)) (fun _ _ _ h=>h) (Or.inl ⟨by rfl,?_⟩) ?_ ?_
            rotate_left
            ·intro w'
             go_simp
             with_reducible rfl
            rotate_left
            ·simp only [Act.put,List.setIfInBounds_toArray,List.set_cons_zero,List.set_cons_succ,i64_w,i32_w]
             rfl
            refine pure_ (i:=11) (N:=some 9) (v:=?_) (a':=?_) #[true,true,true,true,true,true,true,true,true,true,true,true] rfl rfl (any_of HT_.out (by kernel_rfl)) (fun _ _ _ h=>h) (Or.inl ⟨by rfl,?_⟩) ?_ ?_
            rotate_left
            ·intro w'
             go_simp
             with_reducible rfl
            rotate_left
            ·simp only [Act.put,List.setIfInBounds_toArray,List.set_cons_zero,List.set_cons_succ,i64_w,i32_w]
             rfl
            refine done_ (done_of HT_.out (by kernel_rfl)) ?_
            try go_wp2_with (first|((with_reducible refine gate_builtin (b:=.append) (xs:=#[.tmp 44,.tmp 46]) rfl ?_);at_builtin;refine Kd.R_append (Kd.int .i64) (w0:=w) w.heap.size rfl (.tmp 44) (.tmp 46) 27 3 (.int .i64 0) 8 rfl Try.underlying27 info3 rfl (by decide) (by omega) u5 x5_1 x7_2 [.int .i64 x7_2] (fun _=>True) (fun _=>False) rfl rfl ?aP (fun _ hk=>hk.elim) ?aF ?aO ?aB ?aS ?aL ?_;(case aP=>exact rfl);(case aB=>exact (by repeat (first|exact HB.out|apply below_alloc|apply pw_below_drewN|apply below_drew1|refine below_set ?_ GE201.out)));(case aF=>exact (fun _ _=>trivial));(case aO=>exact (by (with_reducible repeat (first|apply Kd.R_alloc|apply Kd.R_drewN|apply Kd.R_drew));exact HO_5.out));(case aS=>exact (below_size (by repeat (first|exact HB.out|apply below_alloc|apply pw_below_drewN|apply below_drew1|refine below_set ?_ GE201.out))));(case aL=>have:=LMc18.out;omega);intro v211 w21 ho hb hg hat;rw [← Ny210.out] at ho;have n0_:=Aside0.mk (blk_grown (g:=gb201) (o:=.cells #[.int .i64 a0_0,.int .i64 a0_1,.int .i64 a0_2,.int .i64 a0_3,.slice A0_4 l0_4.length c0_4,.slice A0_5 l0_5.length c0_5,.slice A0_6 l0_6.length c0_6] 34 (0,0)) (by (with_reducible repeat (first|refine blk_drewN ?_ _|refine blk_drew ?_|refine blk_alloc ?_ _));exact BK201.out) hg (Kd.R_ne HO_5.out BK201.out (by decide)));have n1_:=Aside0.mk (hb);have n2_:=Aside0.mk (ho);clear BK201;clear HB;clear HO_5;have BK201:=n0_;have HB:=n1_;have HO212:=n2_;clear n0_ n1_ n2_;clear ho hb hg hat))
            go_roundg k2
            case measure=>have:=HK1.out;have:=HK2.out;omega
            case rel=>exact ⟨(y210),(x6_2),(by first|rfl|(simp;done)|(simp [*];done)),H',⟨by have:=HK1.out;have:=HK2.out;omega⟩,⟨by (with_reducible repeat (first|apply Kd.R_alloc|apply Kd.R_drewN|apply Kd.R_drew));exact HO212.out⟩,⟨by (with_reducible repeat (first|refine blk_drewN ?_ _|refine blk_drew ?_|refine blk_alloc ?_ _));exact BK201.out⟩,⟨by repeat (first|exact HB.out|apply below_alloc|apply pw_below_drewN|apply below_drew1|refine below_set ?_ GE201.out)⟩⟩
           ·rw [if_neg c18] at H
            exact absurd H (by simp)
         ·rw [if_neg c13] at H
          exact absurd H (by simp)
        ·rw [if_neg c12] at H
         have c12b0:decide (x6_2<(l1.length:Int))=false:=decide_eq_false c12
         clear c12
         by_cases c22:x5_1.length<17592186044416
         ·rw [if_pos c22] at H
          have LMc22:=Aside0.mk c22
          clear c22
          obtain ⟨y213,hy213⟩:∃ y_:List Int,y_=(x5_1++[x7_2]):=⟨_,rfl⟩
          replace H:(spec_Shape.l0 k2 l1 y213 x6_2 a0_0 a0_1 a0_2 a0_3 l0_4 l0_5 l0_6)=some r:=by first|(rw [hy213];with_reducible exact H)|(have H2_:=(Option.bind_some _ _).symm.trans H;rw [hy213];with_reducible exact H2_)|(have H2_:=(Option.bind_some _ _).symm.trans H;with_reducible exact H2_)|with_reducible exact H|(rw [hy213];exact H)|exact H
          have Ny213:=Aside0.mk hy213
          clear hy213
          have H':=Aside0.mk H
          clear H
          go_wp2_with (first|((with_reducible refine gate_builtin (b:=.append) (xs:=#[.tmp 44,.tmp 46]) rfl ?_);at_builtin;refine Kd.R_append (Kd.int .i64) (w0:=w) w.heap.size rfl (.tmp 44) (.tmp 46) 27 3 (.int .i64 0) 8 rfl Try.underlying27 info3 rfl (by decide) (by omega) u5 x5_1 x7_2 [.int .i64 x7_2] (fun _=>True) (fun _=>False) rfl rfl ?aP (fun _ hk=>hk.elim) ?aF ?aO ?aB ?aS ?aL ?_;(case aP=>exact rfl);(case aB=>exact (by repeat (first|exact HB.out|apply below_alloc|apply pw_below_drewN|apply below_drew1|refine below_set ?_ GE201.out)));(case aF=>exact (fun _ _=>trivial));(case aO=>exact (by (with_reducible repeat (first|apply Kd.R_alloc|apply Kd.R_drewN|apply Kd.R_drew));exact HO_5.out));(case aS=>exact (below_size (by repeat (first|exact HB.out|apply below_alloc|apply pw_below_drewN|apply below_drew1|refine below_set ?_ GE201.out))));(case aL=>have:=LMc22.out;omega);intro v214 w23 ho hb hg hat;rw [← Ny213.out] at ho;have n0_:=Aside0.mk (blk_grown (g:=gb201) (o:=.cells #[.int .i64 a0_0,.int .i64 a0_1,.int .i64 a0_2,.int .i64 a0_3,.slice A0_4 l0_4.length c0_4,.slice A0_5 l0_5.length c0_5,.slice A0_6 l0_6.length c0_6] 34 (0,0)) (by (with_reducible repeat (first|refine blk_drewN ?_ _|refine blk_drew ?_|refine blk_alloc ?_ _));exact BK201.out) hg (Kd.R_ne HO_5.out BK201.out (by decide)));have n1_:=Aside0.mk (hb);have n2_:=Aside0.mk (ho);clear BK201;clear HB;clear HO_5;have BK201:=n0_;have HB:=n1_;have HO215:=n2_;clear n0_ n1_ n2_;clear ho hb hg hat))
          go_roundg k2
          case measure=>have:=HK1.out;have:=HK2.out;omega
          case rel=>exact ⟨(y213),(x6_2),(by first|rfl|(simp;done)|(simp [*];done)),H',⟨by have:=HK1.out;have:=HK2.out;omega⟩,⟨by (with_reducible repeat (first|apply Kd.R_alloc|apply Kd.R_drewN|apply Kd.R_drew));exact HO215.out⟩,⟨by (with_reducible repeat (first|refine blk_drewN ?_ _|refine blk_drew ?_|refine blk_alloc ?_ _));exact BK201.out⟩,⟨by repeat (first|exact HB.out|apply below_alloc|apply pw_below_drewN|apply below_drew1|refine below_set ?_ GE201.out)⟩⟩
         ·rw [if_neg c22] at H
          exact absurd H (by simp)
     ·rw [if_neg c11] at H
      exact absurd H (by simp)
    ·rw [if_neg c10] at H
     have c10b0:decide (x6_1<(l1.length:Int))=false:=decide_eq_false c10
     clear c10
     obtain rfl:=Option.some.inj H
     go_wp2
     go_ret
     exact ⟨_,by first|rfl|(simp [errW_none,errW_some]<;>rfl)|(simp [*,errW_none,errW_some]<;>rfl),by (with_reducible repeat (first|apply Kd.R_alloc|apply Kd.R_drewN|apply Kd.R_drew));exact HO_5.out,by repeat (first|exact HB.out|apply below_alloc|apply pw_below_drewN|apply below_drew1|refine below_set ?_ GE201.out)⟩
 ·replace c4:=Bool.eq_false_iff.mpr c4
  subst c4
  have H1:(some y202)=some r:=by rw [if_neg (show ¬ (false=true) by decide)] at H;exact H
  clear H
  have H:=H1
  clear H1
  obtain rfl:=Option.some.inj H
  go_enter Try.func7,Try.ntmps7
  go_wp2_with (first|((with_reducible refine gate_dst (N:=2) rfl ?_);refine box_event ?hg (N:=2) ?hd (cs:=#[.int .i64 a0_0,.int .i64 a0_1,.int .i64 a0_2,.int .i64 a0_3,.slice A0_4 l0_4.length c0_4,.slice A0_5 l0_5.length c0_5,.slice A0_6 l0_6.length c0_6]) (t:=34) ?hr ?_;(case hd=>rfl);(case hg=>rfl);(case hr=>first|(go_simp;done)|(go_simp;rfl));intro gb201 hg w24 hbox hb;have n0_:=Aside0.mk (below_step (by repeat (first|(with_reducible first|exact HB.out|apply below_alloc|apply pw_below_drewN|apply below_drew1)|exact HB.out)) hb);have n1_:=Aside0.mk (hbox);have n2_:=Aside0.mk ((by rw [hg];exact (below_size (by repeat (first|(with_reducible first|exact HB.out|apply below_alloc|apply pw_below_drewN|apply below_drew1)|exact HB.out))):w.heap.size≤gb201));have n3_:=Aside0.mk ((by rw [hg];exact (below_size (by repeat (first|(with_reducible first|exact HB.out|apply below_alloc|apply pw_below_drewN|apply below_drew1)|exact HB.out))):w.heap.size≤gb201));clear HB;have HB:=n0_;have BK201:=n1_;have GW201:=n2_;have GE201:=n3_;clear n0_ n1_ n2_ n3_;clear hb hbox hg)|((with_reducible refine gate_dst (N:=10) rfl ?_);refine Kd.R_lit (Kd.int .i64) _ 3 ?hg (N:=10) ?hd (xs:=([]:List Int)) (inner:=[]) (ok:=fun _=>True) (okp:=fun _=>True) ?hr ?hp (fun _ hk=>hk) trivial (Below.refl _ _) (Nat.le_refl _) (by simp) ?_;(case hd=>rfl);(case hg=>rfl);(case hr=>first|(go_simp;done)|(go_simp;rfl));(case hp=>exact (Reps.none _ _));intro v203 w25 ho26 hb hg_ hnew_;clear hg_ hnew_;(first|rw [← Ny202.out] at ho26|(simp only [Int.reduceToNat] at ho26;rw [← Ny202.out] at ho26));have n0_:=Aside0.mk (Kd.R_lower ho26 (below_size (by repeat (first|exact HB.out|apply below_alloc|apply pw_below_drewN|apply below_drew1|refine below_set ?_ GE201.out))));have n1_:=Aside0.mk (blk_below (g:=gb201) (o:=.cells #[.int .i64 a0_0,.int .i64 a0_1,.int .i64 a0_2,.int .i64 a0_3,.slice A0_4 l0_4.length c0_4,.slice A0_5 l0_5.length c0_5,.slice A0_6 l0_6.length c0_6] 34 (0,0)) (by (with_reducible repeat (first|refine blk_drewN ?_ _|refine blk_drew ?_|refine blk_alloc ?_ _));exact BK201.out) hb);have n2_:=Aside0.mk (below_step (by repeat (first|exact HB.out|apply below_alloc|apply pw_below_drewN|apply below_drew1|refine below_set ?_ GE201.out)) hb);clear BK201;clear HB;have HO204:=n0_;have BK201:=n1_;have HB:=n2_;clear n0_ n1_ n2_;clear hb ho26;have hcz27_0:w25.cell? ⟨gb201,0,none⟩=some (.int .i64 a0_0):=(blk_cell BK201.out 0).trans rfl;have hcz27_1:w25.cell? ⟨gb201,1,none⟩=some (.int .i64 a0_1):=(blk_cell BK201.out 1).trans rfl;have hcz27_2:w25.cell? ⟨gb201,2,none⟩=some (.int .i64 a0_2):=(blk_cell BK201.out 2).trans rfl;have hcz27_3:w25.cell? ⟨gb201,3,none⟩=some (.int .i64 a0_3):=(blk_cell BK201.out 3).trans rfl;have hcz27_4:w25.cell? ⟨gb201,4,none⟩=some (.slice A0_4 l0_4.length c0_4):=(blk_cell BK201.out 4).trans rfl;have hcz27_5:w25.cell? ⟨gb201,5,none⟩=some (.slice A0_5 l0_5.length c0_5):=(blk_cell BK201.out 5).trans rfl;have hcz27_6:w25.cell? ⟨gb201,6,none⟩=some (.slice A0_6 l0_6.length c0_6):=(blk_cell BK201.out 6).trans rfl;have hfz27_0:=blk_frozen BK201.out 0;have hfz27_1:=blk_frozen BK201.out 1;have hfz27_2:=blk_frozen BK201.out 2;have hfz27_3:=blk_frozen BK201.out 3;have hfz27_4:=blk_frozen BK201.out 4;have hfz27_5:=blk_frozen BK201.out 5;have hfz27_6:=blk_frozen BK201.out 6)|((with_reducible refine gate_callee (f:=22) rfl ?_);refine goesL_ (some 12) rfl rfl Try.func22 (by kernel_rfl) rfl #[.agg #[.int .i64 a0_0,.int .i64 a0_1,.int .i64 a0_2,.int .i64 a0_3,.slice A0_4 l0_4.length c0_4,.slice A0_5 l0_5.length c0_5,.slice A0_6 l0_6.length c0_6]] rfl (by (try simp only [List.map_toArray,List.map_cons,List.map_nil]);first|done|rfl|(simp only [List.length_drop,List.length_take];rfl)) ?_;(with_reducible refine (spec_FontOk.calls k a0_0 a0_1 a0_2 a0_3 _ _ l0_4 _ _ l0_5 _ _ l0_6 false _ ?side1 ?side2 ?side3 ?side4 ?side5 ?side6 A3.out).mono ?_);(case side1=>repeat (first|exact (Kd.C_below HR0_4.out HB.out)|(with_reducible refine Kd.C_alloc ?_ _)|(with_reducible refine Kd.C_drewN ?_ _)|(with_reducible refine Kd.C_drew ?_)));(case side2=>exact HC0_4.out);(case side3=>repeat (first|exact (Kd.C_below HR0_5.out HB.out)|(with_reducible refine Kd.C_alloc ?_ _)|(with_reducible refine Kd.C_drewN ?_ _)|(with_reducible refine Kd.C_drew ?_)));(case side4=>exact HC0_5.out);(case side5=>repeat (first|exact (Kd.C_below HR0_6.out HB.out)|(with_reducible refine Kd.C_alloc ?_ _)|(with_reducible refine Kd.C_drewN ?_ _)|(with_reducible refine Kd.C_drew ?_)));(case side6=>exact HC0_6.out);rintro e w28 ⟨rfl,hb⟩;refine ⟨_,rfl,?_⟩;have n0_:=Aside0.mk (Kd.R_below (by (with_reducible repeat (first|apply Kd.R_alloc|apply Kd.R_drewN|apply Kd.R_drew));exact HO204.out) hb);have n1_:=Aside0.mk (blk_below (g:=gb201) (o:=.cells #[.int .i64 a0_0,.int .i64 a0_1,.int .i64 a0_2,.int .i64 a0_3,.slice A0_4 l0_4.length c0_4,.slice A0_5 l0_5.length c0_5,.slice A0_6 l0_6.length c0_6] 34 (0,0)) (by (with_reducible repeat (first|refine blk_drewN ?_ _|refine blk_drew ?_|refine blk_alloc ?_ _));exact BK201.out) hb);have n2_:=Aside0.mk (below_step (by repeat (first|exact HB.out|apply below_alloc|apply pw_below_drewN|apply below_drew1|refine below_set ?_ GE201.out)) hb);clear HO204;clear BK201;clear HB;have HO204:=n0_;have BK201:=n1_;have HB:=n2_;clear n0_ n1_ n2_;(try clear hb);(try clear hb2);(try clear hk);(try clear hi)))
  go_ret
  exact ⟨_,by first|rfl|(simp [errW_none,errW_some]<;>rfl)|(simp [*,errW_none,errW_some]<;>rfl),by (with_reducible repeat (first|apply Kd.R_alloc|apply Kd.R_drewN|apply Kd.R_drew));exact HO204.out,by repeat (first|exact HB.out|apply below_alloc|apply pw_below_drewN|apply below_drew1|refine below_set ?_ GE201.out)⟩
/-! ### spec_l12Silent: function 40 -/
def spec_l12Silent.f (a0:Int):Option (Bool):=if a0=10 then (some true) else (if a0=173 then (some true) else (if a0=8203 then (some true) else (if a0=8205 then (some true) else (if a0=8206 then (some true) else (some (a0==8207))))))
set_option maxHeartbeats 8000000 in
set_option maxRecDepth 100000 in
theorem spec_l12Silent.calls (a0:Int) (r:Bool) (w:World) (h:spec_l12Silent.f a0=some r) :
  Calls Try.prog 40 #[.int .i64 a0] w fun e w'=>e=.returned (.bool r)∧Drawn0 w w':=by
 have H:(if a0=10 then (some true) else (if a0=173 then (some true) else (if a0=8203 then (some true) else (if a0=8205 then (some true) else (if a0=8206 then (some true) else (some (a0==8207)))))))=some r:=h
 clear h
 by_cases c2:a0=10
 ·rw [if_pos c2] at H
  have c2b0:(a0==10)=true:=beq_iff_eq.mpr c2
  have c2b1:(a0 != 10)=false:=bne_eq_false_iff_eq.mpr c2
  clear c2
  obtain rfl:=Option.some.inj H
  go_enter Try.func40,Try.ntmps40
  go_wp2
  go_ret
  exact ⟨by first|rfl|(simp;done)|(simp [*];done),by repeat (first|exact Drawn0.refl _|apply Drawn0.step)⟩
 ·rw [if_neg c2] at H
  have c2b0:(a0==10)=false:=beq_eq_false_iff_ne.mpr c2
  have c2b1:(a0 != 10)=true:=bne_iff_ne.mpr c2
  by_cases c3:a0=173
  ·rw [if_pos c3] at H
   have c3b0:(a0==173)=true:=beq_iff_eq.mpr c3
   have c3b1:(a0 != 173)=false:=bne_eq_false_iff_eq.mpr c3
   clear c3
   obtain rfl:=Option.some.inj H
   go_enter Try.func40,Try.ntmps40
   go_wp2
   go_ret
   exact ⟨by first|rfl|(simp;done)|(simp [*];done),by repeat (first|exact Drawn0.refl _|apply Drawn0.step)⟩
  ·rw [if_neg c3] at H
   have c3b0:(a0==173)=false:=beq_eq_false_iff_ne.mpr c3
   have c3b1:(a0 != 173)=true:=bne_iff_ne.mpr c3
   by_cases c4:a0=8203
   ·rw [if_pos c4] at H
    have c4b0:(a0==8203)=true:=beq_iff_eq.mpr c4
    have c4b1:(a0 != 8203)=false:=bne_eq_false_iff_eq.mpr c4
    clear c4
    obtain rfl:=Option.some.inj H
    go_enter Try.func40,Try.ntmps40
    go_wp2
    go_ret
    exact ⟨by first|rfl|(simp;done)|(simp [*];done),by repeat (first|exact Drawn0.refl _|apply Drawn0.step)⟩
   ·rw [if_neg c4] at H
    have c4b0:(a0==8203)=false:=beq_eq_false_iff_ne.mpr c4
    have c4b1:(a0 != 8203)=true:=bne_iff_ne.mpr c4
    by_cases c5:a0=8205
    ·rw [if_pos c5] at H
     have c5b0:(a0==8205)=true:=beq_iff_eq.mpr c5
     have c5b1:(a0 != 8205)=false:=bne_eq_false_iff_eq.mpr c5
     clear c5
     obtain rfl:=Option.some.inj H
     go_enter Try.func40,Try.ntmps40
     go_wp2
     go_ret
     exact ⟨by first|rfl|(simp;done)|(simp [*];done),by repeat (first|exact Drawn0.refl _|apply Drawn0.step)⟩
    ·rw [if_neg c5] at H
     have c5b0:(a0==8205)=false:=beq_eq_false_iff_ne.mpr c5
     have c5b1:(a0 != 8205)=true:=bne_iff_ne.mpr c5
     by_cases c6:a0=8206
     ·rw [if_pos c6] at H
      have c6b0:(a0==8206)=true:=beq_iff_eq.mpr c6
      have c6b1:(a0 != 8206)=false:=bne_eq_false_iff_eq.mpr c6
      clear c6
      obtain rfl:=Option.some.inj H
      go_enter Try.func40,Try.ntmps40
      go_wp2
      go_ret
      exact ⟨by first|rfl|(simp;done)|(simp [*];done),by repeat (first|exact Drawn0.refl _|apply Drawn0.step)⟩
     ·rw [if_neg c6] at H
      have c6b0:(a0==8206)=false:=beq_eq_false_iff_ne.mpr c6
      have c6b1:(a0 != 8206)=true:=bne_iff_ne.mpr c6
      obtain rfl:=Option.some.inj H
      go_enter Try.func40,Try.ntmps40
      go_wp2
      go_ret
      exact ⟨by first|rfl|(simp;done)|(simp [*];done),by repeat (first|exact Drawn0.refl _|apply Drawn0.step)⟩
end Go.Proofs.Ytiinihponcojkaa.QFnExactAdvance
