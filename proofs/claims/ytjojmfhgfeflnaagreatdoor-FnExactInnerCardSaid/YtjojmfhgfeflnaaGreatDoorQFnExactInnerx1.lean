/- Written by a program (wip/tools/own_print.py) out of the walk that the kit's printer made; turned where it fell. -/
-- PRINTED by print.py (a twelfth state) out of the translation. Not trusted: Lean checks it.
import Derived.Test.YtjojmfhgfeflnaaGreatDoorQFnExactInnerx0
namespace Go.Proofs.YtjojmfhgfeflnaaGreatDoor.QFnExactInner
open Go.RowKit Go.Proofs.YtjojmfhgfeflnaaGreatDoorV.PrintWords Go.Proofs.YtjojmfhgfeflnaaGreatDoorV.PrintLast Go.Proofs.YtjojmfhgfeflnaaGreatDoorV.PrintMore
attribute [local go_sem] max2_int min2_int max_two min_two max_three min_three max_four min_four   -- for this text's walks alone
set_option linter.unusedVariables false
set_option linter.unusedSimpArgs false
/-! ### laws_szAttr: function 45 -/
def laws_szAttr.f (a0_0:ByteArray) (a0_1:ByteArray) (a1:Int):Option (Int):=if (wrap64 (a1 - (a0_0.size:Int)))<0 then (some (-1)) else (if (wrap64 ((wrap64 (a1 - (a0_0.size:Int))) - (a0_1.size:Int)))<0 then (some (-1)) else (some (wrap64 ((wrap64 (a1 - (a0_0.size:Int))) - (a0_1.size:Int)))))
set_option maxHeartbeats 8000000 in
set_option maxRecDepth 100000 in
theorem laws_szAttr.calls (a0_0:ByteArray) (a0_1:ByteArray) (a1:Int) (r:Int) (w:World) (h:laws_szAttr.f a0_0 a0_1 a1=some r) :
  Calls Tryz.prog 45 #[.agg #[.string a0_0,.string a0_1],.int .i64 a1] w fun e w'=>e=.returned (.int .i64 r)∧Below w.heap.size w w':=by
 have hu91:=Tryz.underlying91
 have HB:=Aside0.mk (Below.refl w.heap.size w)
 have H:(if (wrap64 (a1 - (a0_0.size:Int)))<0 then (some (-1)) else (if (wrap64 ((wrap64 (a1 - (a0_0.size:Int))) - (a0_1.size:Int)))<0 then (some (-1)) else (some (wrap64 ((wrap64 (a1 - (a0_0.size:Int))) - (a0_1.size:Int))))))=some r:=h
 clear h
 by_cases c3:(wrap64 (a1 - (a0_0.size:Int)))<0
 ·rw [if_pos c3] at H
  have c3b0:decide ((wrap64 (a1 - (a0_0.size:Int)))<0)=true:=decide_eq_true c3
  clear c3
  obtain rfl:=Option.some.inj H
  go_enter Tryz.func45,Tryz.ntmps45
  go_wp2_with (first|((with_reducible refine gate_dst (N:=2) rfl ?_);refine box_event ?hg (N:=2) ?hd (cs:=#[.string a0_0,.string a0_1]) (t:=91) ?hr ?_;(case hd=>rfl);(case hg=>rfl);(case hr=>first|(go_simp;done)|(go_simp;rfl));intro gb101 hg w4 hbox hb;have n0_:=Aside0.mk (below_step (by repeat (first|(with_reducible first|exact HB.out|apply below_alloc|apply pw_below_drewN|apply below_drew1)|exact HB.out)) hb);have n1_:=Aside0.mk (hbox);have n2_:=Aside0.mk ((by rw [hg];exact (below_size (by repeat (first|(with_reducible first|exact HB.out|apply below_alloc|apply pw_below_drewN|apply below_drew1)|exact HB.out))):w.heap.size≤gb101));have n3_:=Aside0.mk ((by rw [hg];exact (below_size (by repeat (first|(with_reducible first|exact HB.out|apply below_alloc|apply pw_below_drewN|apply below_drew1)|exact HB.out))):w.heap.size≤gb101));clear HB;have HB:=n0_;have BK101:=n1_;have GW101:=n2_;have GE101:=n3_;clear n0_ n1_ n2_ n3_;clear hb hbox hg;have hcz5_0:w4.cell? ⟨gb101,0,none⟩=some (.string a0_0):=(blk_cell BK101.out 0).trans rfl;have hcz5_1:w4.cell? ⟨gb101,1,none⟩=some (.string a0_1):=(blk_cell BK101.out 1).trans rfl;have hfz5_0:=blk_frozen BK101.out 0;have hfz5_1:=blk_frozen BK101.out 1))
  go_ret
  exact ⟨by first|rfl|(simp [errW_none,errW_some]<;>rfl)|(simp [*,errW_none,errW_some]<;>rfl),by repeat (first|(with_reducible first|exact HB.out|apply below_alloc|apply pw_below_drewN|apply below_drew1|refine below_set ?_ GE101.out)|exact HB.out)⟩
 ·rw [if_neg c3] at H
  have c3b0:decide ((wrap64 (a1 - (a0_0.size:Int)))<0)=false:=decide_eq_false c3
  clear c3
  by_cases c6:(wrap64 ((wrap64 (a1 - (a0_0.size:Int))) - (a0_1.size:Int)))<0
  ·rw [if_pos c6] at H
   have c6b0:decide ((wrap64 ((wrap64 (a1 - (a0_0.size:Int))) - (a0_1.size:Int)))<0)=true:=decide_eq_true c6
   clear c6
   obtain rfl:=Option.some.inj H
   go_enter Tryz.func45,Tryz.ntmps45
   go_wp2_with (first|((with_reducible refine gate_dst (N:=2) rfl ?_);refine box_event ?hg (N:=2) ?hd (cs:=#[.string a0_0,.string a0_1]) (t:=91) ?hr ?_;(case hd=>rfl);(case hg=>rfl);(case hr=>first|(go_simp;done)|(go_simp;rfl));intro gb101 hg w7 hbox hb;have n0_:=Aside0.mk (below_step (by repeat (first|(with_reducible first|exact HB.out|apply below_alloc|apply pw_below_drewN|apply below_drew1)|exact HB.out)) hb);have n1_:=Aside0.mk (hbox);have n2_:=Aside0.mk ((by rw [hg];exact (below_size (by repeat (first|(with_reducible first|exact HB.out|apply below_alloc|apply pw_below_drewN|apply below_drew1)|exact HB.out))):w.heap.size≤gb101));have n3_:=Aside0.mk ((by rw [hg];exact (below_size (by repeat (first|(with_reducible first|exact HB.out|apply below_alloc|apply pw_below_drewN|apply below_drew1)|exact HB.out))):w.heap.size≤gb101));clear HB;have HB:=n0_;have BK101:=n1_;have GW101:=n2_;have GE101:=n3_;clear n0_ n1_ n2_ n3_;clear hb hbox hg;have hcz8_0:w7.cell? ⟨gb101,0,none⟩=some (.string a0_0):=(blk_cell BK101.out 0).trans rfl;have hcz8_1:w7.cell? ⟨gb101,1,none⟩=some (.string a0_1):=(blk_cell BK101.out 1).trans rfl;have hfz8_0:=blk_frozen BK101.out 0;have hfz8_1:=blk_frozen BK101.out 1))
   go_ret
   exact ⟨by first|rfl|(simp [errW_none,errW_some]<;>rfl)|(simp [*,errW_none,errW_some]<;>rfl),by repeat (first|(with_reducible first|exact HB.out|apply below_alloc|apply pw_below_drewN|apply below_drew1|refine below_set ?_ GE101.out)|exact HB.out)⟩
  ·rw [if_neg c6] at H
   have c6b0:decide ((wrap64 ((wrap64 (a1 - (a0_0.size:Int))) - (a0_1.size:Int)))<0)=false:=decide_eq_false c6
   clear c6
   obtain rfl:=Option.some.inj H
   go_enter Tryz.func45,Tryz.ntmps45
   go_wp2_with (first|((with_reducible refine gate_dst (N:=2) rfl ?_);refine box_event ?hg (N:=2) ?hd (cs:=#[.string a0_0,.string a0_1]) (t:=91) ?hr ?_;(case hd=>rfl);(case hg=>rfl);(case hr=>first|(go_simp;done)|(go_simp;rfl));intro gb101 hg w9 hbox hb;have n0_:=Aside0.mk (below_step (by repeat (first|(with_reducible first|exact HB.out|apply below_alloc|apply pw_below_drewN|apply below_drew1)|exact HB.out)) hb);have n1_:=Aside0.mk (hbox);have n2_:=Aside0.mk ((by rw [hg];exact (below_size (by repeat (first|(with_reducible first|exact HB.out|apply below_alloc|apply pw_below_drewN|apply below_drew1)|exact HB.out))):w.heap.size≤gb101));have n3_:=Aside0.mk ((by rw [hg];exact (below_size (by repeat (first|(with_reducible first|exact HB.out|apply below_alloc|apply pw_below_drewN|apply below_drew1)|exact HB.out))):w.heap.size≤gb101));clear HB;have HB:=n0_;have BK101:=n1_;have GW101:=n2_;have GE101:=n3_;clear n0_ n1_ n2_ n3_;clear hb hbox hg;have hcz10_0:w9.cell? ⟨gb101,0,none⟩=some (.string a0_0):=(blk_cell BK101.out 0).trans rfl;have hcz10_1:w9.cell? ⟨gb101,1,none⟩=some (.string a0_1):=(blk_cell BK101.out 1).trans rfl;have hfz10_0:=blk_frozen BK101.out 0;have hfz10_1:=blk_frozen BK101.out 1))
   go_ret
   exact ⟨by first|rfl|(simp [errW_none,errW_some]<;>rfl)|(simp [*,errW_none,errW_some]<;>rfl),by repeat (first|(with_reducible first|exact HB.out|apply below_alloc|apply pw_below_drewN|apply below_drew1|refine below_set ?_ GE101.out)|exact HB.out)⟩
/-! ### laws_szAttrS: function 31 -/
def laws_szAttrS.l0:Nat→List (S91)→Int→Int→Option (Int)
 |0,_,_,_=>none
 |k+1,x0,x1,x5=>if x5<(x0.length:Int) then (if 0≤x5 then ((laws_szAttr.f ((rd_T91 x0 x5).f0) ((rd_T91 x0 x5).f1) x1).bind fun t103=>(if t103<0 then (some (-1)) else (laws_szAttrS.l0 k x0 t103 (wrap64 (x5+1))))) else (none)) else (some x1)
def laws_szAttrS.f (k:Nat) (l0:List (S91)) (a1:Int):Option (Int):=if (wrap64 (a1 - (l0.length:Int)))<0 then (some (-1)) else (laws_szAttrS.l0 k l0 (wrap64 (a1 - (l0.length:Int))) 0)
theorem laws_szAttrS.mono_l:∀ k,(∀ y0 y1 y2,LeO (laws_szAttrS.l0 k y0 y1 y2) (laws_szAttrS.l0 (k+1) y0 y1 y2))
 |0=>fun _ _ _ r h=>by simp [laws_szAttrS.l0] at h
 |k+1=>by
  have ih0:=laws_szAttrS.mono_l k
  ·intro y0 y1 y2
   unfold laws_szAttrS.l0
   repeat' first
   |(with_reducible exact ih0 _ _ _)
   |(with_reducible exact LeO.refl _)
   |(with_reducible exact LeO.none _)
   |(with_reducible refine LeO.ite ?_ ?_)
   |(with_reducible refine LeO.bind ?_ (fun _=>?_))
   |exact ih0 _ _ _
   |exact LeO.none _
   |refine LeO.ite ?_ ?_
   |refine LeO.bind ?_ (fun _=>?_)
theorem laws_szAttrS.mono:∀ a0 a1 k,LeO (laws_szAttrS.f k a0 a1) (laws_szAttrS.f (k+1) a0 a1):=by
 intro a0 a1 k
 have ih0:=laws_szAttrS.mono_l k
 unfold laws_szAttrS.f
 repeat' first
   |(with_reducible exact ih0 _ _ _)
   |(with_reducible exact LeO.refl _)
   |(with_reducible exact LeO.none _)
   |(with_reducible refine LeO.ite ?_ ?_)
   |(with_reducible refine LeO.bind ?_ (fun _=>?_))
   |exact ih0 _ _ _
   |exact LeO.none _
   |refine LeO.ite ?_ ?_
   |refine LeO.bind ?_ (fun _=>?_)
set_option maxHeartbeats 8000000 in
set_option maxRecDepth 100000 in
theorem laws_szAttrS.calls (k:Nat) (A0:Option Addr) (c0:Nat) (l0:List (S91)) (a1:Int) (r:Int) (w:World) (hr0:Kd.C k91 w A0 l0.length l0) (hc0:l0.length≤c0) (h:laws_szAttrS.f k l0 a1=some r) :
  Calls Tryz.prog 31 #[.slice A0 l0.length c0,.int .i64 a1] w fun e w'=>e=.returned (.int .i64 r)∧Below w.heap.size w w':=by
 have hu91:=Tryz.underlying91
 have HR0:=Aside0.mk hr0
 have HC0:=Aside0.mk hc0
 clear hr0 hc0
 have HB:=Aside0.mk (Below.refl w.heap.size w)
 have H:(if (wrap64 (a1 - (l0.length:Int)))<0 then (some (-1)) else (laws_szAttrS.l0 k l0 (wrap64 (a1 - (l0.length:Int))) 0))=some r:=h
 clear h
 by_cases c3:(wrap64 (a1 - (l0.length:Int)))<0
 ·rw [if_pos c3] at H
  have c3b0:decide ((wrap64 (a1 - (l0.length:Int)))<0)=true:=decide_eq_true c3
  clear c3
  obtain rfl:=Option.some.inj H
  go_enter Tryz.func31,Tryz.ntmps31
  go_wp2
  go_ret
  exact ⟨by first|rfl|(simp [errW_none,errW_some]<;>rfl)|(simp [*,errW_none,errW_some]<;>rfl),by repeat (first|(with_reducible first|exact HB.out|apply below_alloc|apply pw_below_drewN|apply below_drew1)|exact HB.out)⟩
 ·rw [if_neg c3] at H
  have c3b0:decide ((wrap64 (a1 - (l0.length:Int)))<0)=false:=decide_eq_false c3
  clear c3
  have H':=Aside0.mk H
  clear H
  go_enter Tryz.func31,Tryz.ntmps31
  go_wp2
  go_loopg [1,5] k (fun kq v1 v5 w'=>∃ (x1_1:Int) (x5_1:Int),v1=.int .i64 x1_1∧v5=.int .i64 x5_1∧Aside0 (laws_szAttrS.l0 kq l0 x1_1 x5_1=some r)∧Aside0 (kq≤k)∧Aside0 (Below w.heap.size w w'))
  case atStart=>exact ⟨(wrap64 (a1 - (l0.length:Int))),(0),(by first|rfl|(simp;done)|(simp [*];done)),(by first|rfl|(simp;done)|(simp [*];done)),H',⟨Nat.le_refl _⟩,⟨by repeat (first|(with_reducible first|exact HB.out|apply below_alloc|apply pw_below_drewN|apply below_drew1)|exact HB.out)⟩⟩
  case round=>
   clear H'
   try clear p2
   try clear c3
   try clear c3b0
   obtain ⟨x1_1,x5_1,rfl,rfl,HA,HK1,HB⟩:=hrel
   cases gk with
   |zero=>exact absurd HA.out (by simp [laws_szAttrS.l0])
   |succ k1=>
    have H:=HA.out
    clear HA
    simp only [laws_szAttrS.l0] at H
    by_cases c4:x5_1<(l0.length:Int)
    ·rw [if_pos c4] at H
     have c4b0:decide (x5_1<(l0.length:Int))=true:=decide_eq_true c4
     clear c4
     by_cases c5:0≤x5_1
     ·rw [if_pos c5] at H
      have c5b0:decide (0≤x5_1)=true:=decide_eq_true c5
      clear c5
      replace H:=Option.bind_eq_some_iff.mp H
      obtain ⟨t103,A60,H⟩:=H
      replace H:(if t103<0 then (some (-1)) else (laws_szAttrS.l0 k1 l0 t103 (wrap64 (x5_1+1))))=some r:=H
      have A6:=Aside0.mk A60
      clear A60
      by_cases c7:t103<0
      ·rw [if_pos c7] at H
       have c7b0:decide (t103<0)=true:=decide_eq_true c7
       clear c7
       obtain rfl:=Option.some.inj H
       have p102:0≤(x5_1:Int):=of_decide_eq_true (by first|(with_reducible assumption)|assumption)
       have q102:x5_1<(l0.length:Int):=of_decide_eq_true (by first|(with_reducible assumption)|assumption)
       obtain ⟨ad102,e102,hx102_0,hx102_1⟩:=at_T91 HR0.out x5_1 p102 q102
       cases e102
       replace hx102_0:=(HB.out.cell (World.block_lt_of_cell? w _ hx102_0)).trans hx102_0
       replace hx102_1:=(HB.out.cell (World.block_lt_of_cell? w _ hx102_1)).trans hx102_1
       replace p102:=eq_true p102
       replace q102:=eq_true q102
       go_wp2_with (first|((with_reducible refine gate_callee (f:=45) rfl ?_);refine goesL_ (some 23) rfl rfl Tryz.func45 (by kernel_rfl) rfl #[.agg #[.string ((rd_T91 l0 x5_1).f0),.string ((rd_T91 l0 x5_1).f1)],.int .i64 x1_1] rfl (by (try simp only [List.map_toArray,List.map_cons,List.map_nil]);first|done|rfl|(simp only [List.length_drop,List.length_take];rfl)) ?_;(with_reducible refine (laws_szAttr.calls ((rd_T91 l0 x5_1).f0) ((rd_T91 l0 x5_1).f1) x1_1 t103 _ A6.out).mono ?_);rintro e w8 ⟨rfl,hb⟩;refine ⟨_,rfl,?_⟩;have n0_:=Aside0.mk (below_step (by repeat (first|(with_reducible first|exact HB.out|apply below_alloc|apply pw_below_drewN|apply below_drew1)|exact HB.out)) hb);clear HB;have HB:=n0_;clear n0_;(try clear hb);(try clear hb2);(try clear hk);(try clear hi)))
       go_ret
       exact ⟨by first|rfl|(simp [errW_none,errW_some]<;>rfl)|(simp [*,errW_none,errW_some]<;>rfl),by repeat (first|(with_reducible first|exact HB.out|apply below_alloc|apply pw_below_drewN|apply below_drew1)|exact HB.out)⟩
      ·rw [if_neg c7] at H
       have c7b0:decide (t103<0)=false:=decide_eq_false c7
       clear c7
       have H':=Aside0.mk H
       clear H
       have p102:0≤(x5_1:Int):=of_decide_eq_true (by first|(with_reducible assumption)|assumption)
       have q102:x5_1<(l0.length:Int):=of_decide_eq_true (by first|(with_reducible assumption)|assumption)
       obtain ⟨ad102,e102,hx102_0,hx102_1⟩:=at_T91 HR0.out x5_1 p102 q102
       cases e102
       replace hx102_0:=(HB.out.cell (World.block_lt_of_cell? w _ hx102_0)).trans hx102_0
       replace hx102_1:=(HB.out.cell (World.block_lt_of_cell? w _ hx102_1)).trans hx102_1
       replace p102:=eq_true p102
       replace q102:=eq_true q102
       go_wp2_with (first|((with_reducible refine gate_callee (f:=45) rfl ?_);refine goesL_ (some 23) rfl rfl Tryz.func45 (by kernel_rfl) rfl #[.agg #[.string ((rd_T91 l0 x5_1).f0),.string ((rd_T91 l0 x5_1).f1)],.int .i64 x1_1] rfl (by (try simp only [List.map_toArray,List.map_cons,List.map_nil]);first|done|rfl|(simp only [List.length_drop,List.length_take];rfl)) ?_;(with_reducible refine (laws_szAttr.calls ((rd_T91 l0 x5_1).f0) ((rd_T91 l0 x5_1).f1) x1_1 t103 _ A6.out).mono ?_);rintro e w9 ⟨rfl,hb⟩;refine ⟨_,rfl,?_⟩;have n0_:=Aside0.mk (below_step (by repeat (first|(with_reducible first|exact HB.out|apply below_alloc|apply pw_below_drewN|apply below_drew1)|exact HB.out)) hb);clear HB;have HB:=n0_;clear n0_;(try clear hb);(try clear hb2);(try clear hk);(try clear hi)))
       go_roundg k1
       case measure=>have:=HK1.out;omega
       case rel=>exact ⟨(t103),(wrap64 (x5_1+1)),(by first|rfl|(simp;done)|(simp [*];done)),(by first|rfl|(simp;done)|(simp [*];done)),H',⟨by have:=HK1.out;omega⟩,⟨by repeat (first|(with_reducible first|exact HB.out|apply below_alloc|apply pw_below_drewN|apply below_drew1)|exact HB.out)⟩⟩
     ·rw [if_neg c5] at H
      exact absurd H (by simp)
    ·rw [if_neg c4] at H
     have c4b0:decide (x5_1<(l0.length:Int))=false:=decide_eq_false c4
     clear c4
     obtain rfl:=Option.some.inj H
     go_wp2
     go_ret
     exact ⟨by first|rfl|(simp [errW_none,errW_some]<;>rfl)|(simp [*,errW_none,errW_some]<;>rfl),by repeat (first|(with_reducible first|exact HB.out|apply below_alloc|apply pw_below_drewN|apply below_drew1)|exact HB.out)⟩
/-! ### laws_szNode: function 22 -/
def laws_szNode.f (k:Nat) (a0_0:Int) (a0_1:Int) (a0_2:ByteArray) (l0_3:List (S91)) (a0_4:ByteArray) (a0_5:Int) (a1:Int):Option (Int):=if (wrap64 (a1 - (a0_2.size:Int)))<0 then (some (-1)) else ((laws_szAttrS.f k l0_3 (wrap64 (a1 - (a0_2.size:Int)))).bind fun t105=>(if t105<0 then (some (-1)) else (if (wrap64 (t105 - (a0_4.size:Int)))<0 then (some (-1)) else (some (wrap64 (t105 - (a0_4.size:Int)))))))
theorem laws_szNode.mono:∀ a0 a1 a2 a3 a4 a5 a6 k,LeO (laws_szNode.f k a0 a1 a2 a3 a4 a5 a6) (laws_szNode.f (k+1) a0 a1 a2 a3 a4 a5 a6):=by
 intro a0 a1 a2 a3 a4 a5 a6 k
 unfold laws_szNode.f
 repeat' first
   |(with_reducible exact laws_szAttrS.mono _ _ _)
   |(with_reducible exact LeO.refl _)
   |(with_reducible exact LeO.none _)
   |(with_reducible refine LeO.ite ?_ ?_)
   |(with_reducible refine LeO.bind ?_ (fun _=>?_))
   |exact laws_szAttrS.mono _ _ _
   |exact LeO.none _
   |refine LeO.ite ?_ ?_
   |refine LeO.bind ?_ (fun _=>?_)
set_option maxHeartbeats 8000000 in
set_option maxRecDepth 100000 in
theorem laws_szNode.calls (k:Nat) (a0_0:Int) (a0_1:Int) (a0_2:ByteArray) (A0_3:Option Addr) (c0_3:Nat) (l0_3:List (S91)) (a0_4:ByteArray) (a0_5:Int) (a1:Int) (r:Int) (w:World) (hr0_3:Kd.C k91 w A0_3 l0_3.length l0_3) (hc0_3:l0_3.length≤c0_3) (h:laws_szNode.f k a0_0 a0_1 a0_2 l0_3 a0_4 a0_5 a1=some r) :
  Calls Tryz.prog 22 #[.agg #[.int .i64 a0_0,.int .i64 a0_1,.string a0_2,.slice A0_3 l0_3.length c0_3,.string a0_4,.int .i64 a0_5],.int .i64 a1] w fun e w'=>e=.returned (.int .i64 r)∧Below w.heap.size w w':=by
 have hu63:=Tryz.underlying63
 have HR0_3:=Aside0.mk hr0_3
 have HC0_3:=Aside0.mk hc0_3
 clear hr0_3 hc0_3
 have HB:=Aside0.mk (Below.refl w.heap.size w)
 have H:(if (wrap64 (a1 - (a0_2.size:Int)))<0 then (some (-1)) else ((laws_szAttrS.f k l0_3 (wrap64 (a1 - (a0_2.size:Int)))).bind fun t105=>(if t105<0 then (some (-1)) else (if (wrap64 (t105 - (a0_4.size:Int)))<0 then (some (-1)) else (some (wrap64 (t105 - (a0_4.size:Int))))))))=some r:=h
 clear h
 by_cases c3:(wrap64 (a1 - (a0_2.size:Int)))<0
 ·rw [if_pos c3] at H
  have c3b0:decide ((wrap64 (a1 - (a0_2.size:Int)))<0)=true:=decide_eq_true c3
  clear c3
  obtain rfl:=Option.some.inj H
  go_enter Tryz.func22,Tryz.ntmps22
  go_wp2_with (first|((with_reducible refine gate_dst (N:=2) rfl ?_);refine box_event ?hg (N:=2) ?hd (cs:=#[.int .i64 a0_0,.int .i64 a0_1,.string a0_2,.slice A0_3 l0_3.length c0_3,.string a0_4,.int .i64 a0_5]) (t:=63) ?hr ?_;(case hd=>rfl);(case hg=>rfl);(case hr=>first|(go_simp;done)|(go_simp;rfl));intro gb104 hg w4 hbox hb;have n0_:=Aside0.mk (below_step (by repeat (first|(with_reducible first|exact HB.out|apply below_alloc|apply pw_below_drewN|apply below_drew1)|exact HB.out)) hb);have n1_:=Aside0.mk (hbox);have n2_:=Aside0.mk ((by rw [hg];exact (below_size (by repeat (first|(with_reducible first|exact HB.out|apply below_alloc|apply pw_below_drewN|apply below_drew1)|exact HB.out))):w.heap.size≤gb104));have n3_:=Aside0.mk ((by rw [hg];exact (below_size (by repeat (first|(with_reducible first|exact HB.out|apply below_alloc|apply pw_below_drewN|apply below_drew1)|exact HB.out))):w.heap.size≤gb104));clear HB;have HB:=n0_;have BK104:=n1_;have GW104:=n2_;have GE104:=n3_;clear n0_ n1_ n2_ n3_;clear hb hbox hg;have hcz5_0:w4.cell? ⟨gb104,0,none⟩=some (.int .i64 a0_0):=(blk_cell BK104.out 0).trans rfl;have hcz5_1:w4.cell? ⟨gb104,1,none⟩=some (.int .i64 a0_1):=(blk_cell BK104.out 1).trans rfl;have hcz5_2:w4.cell? ⟨gb104,2,none⟩=some (.string a0_2):=(blk_cell BK104.out 2).trans rfl;have hcz5_3:w4.cell? ⟨gb104,3,none⟩=some (.slice A0_3 l0_3.length c0_3):=(blk_cell BK104.out 3).trans rfl;have hcz5_4:w4.cell? ⟨gb104,4,none⟩=some (.string a0_4):=(blk_cell BK104.out 4).trans rfl;have hcz5_5:w4.cell? ⟨gb104,5,none⟩=some (.int .i64 a0_5):=(blk_cell BK104.out 5).trans rfl;have hfz5_0:=blk_frozen BK104.out 0;have hfz5_1:=blk_frozen BK104.out 1;have hfz5_2:=blk_frozen BK104.out 2;have hfz5_3:=blk_frozen BK104.out 3;have hfz5_4:=blk_frozen BK104.out 4;have hfz5_5:=blk_frozen BK104.out 5))
  go_ret
  exact ⟨by first|rfl|(simp [errW_none,errW_some]<;>rfl)|(simp [*,errW_none,errW_some]<;>rfl),by repeat (first|(with_reducible first|exact HB.out|apply below_alloc|apply pw_below_drewN|apply below_drew1|refine below_set ?_ GE104.out)|exact HB.out)⟩
 ·rw [if_neg c3] at H
  have c3b0:decide ((wrap64 (a1 - (a0_2.size:Int)))<0)=false:=decide_eq_false c3
  clear c3
  replace H:=Option.bind_eq_some_iff.mp H
  obtain ⟨t105,A60,H⟩:=H
  replace H:(if t105<0 then (some (-1)) else (if (wrap64 (t105 - (a0_4.size:Int)))<0 then (some (-1)) else (some (wrap64 (t105 - (a0_4.size:Int))))))=some r:=H
  have A6:=Aside0.mk A60
  clear A60
  by_cases c7:t105<0
  ·rw [if_pos c7] at H
   have c7b0:decide (t105<0)=true:=decide_eq_true c7
   clear c7
   obtain rfl:=Option.some.inj H
   go_enter Tryz.func22,Tryz.ntmps22
   go_wp2_with (first|((with_reducible refine gate_dst (N:=2) rfl ?_);refine box_event ?hg (N:=2) ?hd (cs:=#[.int .i64 a0_0,.int .i64 a0_1,.string a0_2,.slice A0_3 l0_3.length c0_3,.string a0_4,.int .i64 a0_5]) (t:=63) ?hr ?_;(case hd=>rfl);(case hg=>rfl);(case hr=>first|(go_simp;done)|(go_simp;rfl));intro gb104 hg w8 hbox hb;have n0_:=Aside0.mk (below_step (by repeat (first|(with_reducible first|exact HB.out|apply below_alloc|apply pw_below_drewN|apply below_drew1)|exact HB.out)) hb);have n1_:=Aside0.mk (hbox);have n2_:=Aside0.mk ((by rw [hg];exact (below_size (by repeat (first|(with_reducible first|exact HB.out|apply below_alloc|apply pw_below_drewN|apply below_drew1)|exact HB.out))):w.heap.size≤gb104));have n3_:=Aside0.mk ((by rw [hg];exact (below_size (by repeat (first|(with_reducible first|exact HB.out|apply below_alloc|apply pw_below_drewN|apply below_drew1)|exact HB.out))):w.heap.size≤gb104));clear HB;have HB:=n0_;have BK104:=n1_;have GW104:=n2_;have GE104:=n3_;clear n0_ n1_ n2_ n3_;clear hb hbox hg;have hcz9_0:w8.cell? ⟨gb104,0,none⟩=some (.int .i64 a0_0):=(blk_cell BK104.out 0).trans rfl;have hcz9_1:w8.cell? ⟨gb104,1,none⟩=some (.int .i64 a0_1):=(blk_cell BK104.out 1).trans rfl;have hcz9_2:w8.cell? ⟨gb104,2,none⟩=some (.string a0_2):=(blk_cell BK104.out 2).trans rfl;have hcz9_3:w8.cell? ⟨gb104,3,none⟩=some (.slice A0_3 l0_3.length c0_3):=(blk_cell BK104.out 3).trans rfl;have hcz9_4:w8.cell? ⟨gb104,4,none⟩=some (.string a0_4):=(blk_cell BK104.out 4).trans rfl;have hcz9_5:w8.cell? ⟨gb104,5,none⟩=some (.int .i64 a0_5):=(blk_cell BK104.out 5).trans rfl;have hfz9_0:=blk_frozen BK104.out 0;have hfz9_1:=blk_frozen BK104.out 1;have hfz9_2:=blk_frozen BK104.out 2;have hfz9_3:=blk_frozen BK104.out 3;have hfz9_4:=blk_frozen BK104.out 4;have hfz9_5:=blk_frozen BK104.out 5)|((with_reducible refine gate_callee (f:=31) rfl ?_);refine goesL_ (some 15) rfl rfl Tryz.func31 (by kernel_rfl) rfl #[.slice A0_3 l0_3.length c0_3,.int .i64 (wrap64 (a1 - (a0_2.size:Int)))] rfl (by (try simp only [List.map_toArray,List.map_cons,List.map_nil]);first|done|rfl|(simp only [List.length_drop,List.length_take];rfl)) ?_;(with_reducible refine (laws_szAttrS.calls k _ _ l0_3 (wrap64 (a1 - (a0_2.size:Int))) t105 _ ?side1 ?side2 A6.out).mono ?_);(case side1=>repeat (first|exact (Kd.C_below HR0_3.out HB.out)|(with_reducible refine Kd.C_alloc ?_ _)|(with_reducible refine Kd.C_drewN ?_ _)|(with_reducible refine Kd.C_drew ?_)));(case side2=>exact HC0_3.out);rintro e w10 ⟨rfl,hb⟩;refine ⟨_,rfl,?_⟩;have n0_:=Aside0.mk (blk_below (g:=gb104) (o:=.cells #[.int .i64 a0_0,.int .i64 a0_1,.string a0_2,.slice A0_3 l0_3.length c0_3,.string a0_4,.int .i64 a0_5] 63 (0,0)) (by (with_reducible repeat (first|refine blk_drewN ?_ _|refine blk_drew ?_|refine blk_alloc ?_ _));exact BK104.out) hb);have n1_:=Aside0.mk (below_step (by repeat (first|(with_reducible first|exact HB.out|apply below_alloc|apply pw_below_drewN|apply below_drew1|refine below_set ?_ GE104.out)|exact HB.out)) hb);clear BK104;clear HB;have BK104:=n0_;have HB:=n1_;clear n0_ n1_;(try clear hb);(try clear hb2);(try clear hk);(try clear hi)))
   go_ret
   exact ⟨by first|rfl|(simp [errW_none,errW_some]<;>rfl)|(simp [*,errW_none,errW_some]<;>rfl),by repeat (first|(with_reducible first|exact HB.out|apply below_alloc|apply pw_below_drewN|apply below_drew1|refine below_set ?_ GE104.out)|exact HB.out)⟩
  ·rw [if_neg c7] at H
   have c7b0:decide (t105<0)=false:=decide_eq_false c7
   clear c7
   by_cases c11:(wrap64 (t105 - (a0_4.size:Int)))<0
   ·rw [if_pos c11] at H
    have c11b0:decide ((wrap64 (t105 - (a0_4.size:Int)))<0)=true:=decide_eq_true c11
    clear c11
    obtain rfl:=Option.some.inj H
    go_enter Tryz.func22,Tryz.ntmps22
    go_wp2_with (first|((with_reducible refine gate_dst (N:=2) rfl ?_);refine box_event ?hg (N:=2) ?hd (cs:=#[.int .i64 a0_0,.int .i64 a0_1,.string a0_2,.slice A0_3 l0_3.length c0_3,.string a0_4,.int .i64 a0_5]) (t:=63) ?hr ?_;(case hd=>rfl);(case hg=>rfl);(case hr=>first|(go_simp;done)|(go_simp;rfl));intro gb104 hg w12 hbox hb;have n0_:=Aside0.mk (below_step (by repeat (first|(with_reducible first|exact HB.out|apply below_alloc|apply pw_below_drewN|apply below_drew1)|exact HB.out)) hb);have n1_:=Aside0.mk (hbox);have n2_:=Aside0.mk ((by rw [hg];exact (below_size (by repeat (first|(with_reducible first|exact HB.out|apply below_alloc|apply pw_below_drewN|apply below_drew1)|exact HB.out))):w.heap.size≤gb104));have n3_:=Aside0.mk ((by rw [hg];exact (below_size (by repeat (first|(with_reducible first|exact HB.out|apply below_alloc|apply pw_below_drewN|apply below_drew1)|exact HB.out))):w.heap.size≤gb104));clear HB;have HB:=n0_;have BK104:=n1_;have GW104:=n2_;have GE104:=n3_;clear n0_ n1_ n2_ n3_;clear hb hbox hg;have hcz13_0:w12.cell? ⟨gb104,0,none⟩=some (.int .i64 a0_0):=(blk_cell BK104.out 0).trans rfl;have hcz13_1:w12.cell? ⟨gb104,1,none⟩=some (.int .i64 a0_1):=(blk_cell BK104.out 1).trans rfl;have hcz13_2:w12.cell? ⟨gb104,2,none⟩=some (.string a0_2):=(blk_cell BK104.out 2).trans rfl;have hcz13_3:w12.cell? ⟨gb104,3,none⟩=some (.slice A0_3 l0_3.length c0_3):=(blk_cell BK104.out 3).trans rfl;have hcz13_4:w12.cell? ⟨gb104,4,none⟩=some (.string a0_4):=(blk_cell BK104.out 4).trans rfl;have hcz13_5:w12.cell? ⟨gb104,5,none⟩=some (.int .i64 a0_5):=(blk_cell BK104.out 5).trans rfl;have hfz13_0:=blk_frozen BK104.out 0;have hfz13_1:=blk_frozen BK104.out 1;have hfz13_2:=blk_frozen BK104.out 2;have hfz13_3:=blk_frozen BK104.out 3;have hfz13_4:=blk_frozen BK104.out 4;have hfz13_5:=blk_frozen BK104.out 5)|((with_reducible refine gate_callee (f:=31) rfl ?_);refine goesL_ (some 15) rfl rfl Tryz.func31 (by kernel_rfl) rfl #[.slice A0_3 l0_3.length c0_3,.int .i64 (wrap64 (a1 - (a0_2.size:Int)))] rfl (by (try simp only [List.map_toArray,List.map_cons,List.map_nil]);first|done|rfl|(simp only [List.length_drop,List.length_take];rfl)) ?_;(with_reducible refine (laws_szAttrS.calls k _ _ l0_3 (wrap64 (a1 - (a0_2.size:Int))) t105 _ ?side1 ?side2 A6.out).mono ?_);(case side1=>repeat (first|exact (Kd.C_below HR0_3.out HB.out)|(with_reducible refine Kd.C_alloc ?_ _)|(with_reducible refine Kd.C_drewN ?_ _)|(with_reducible refine Kd.C_drew ?_)));(case side2=>exact HC0_3.out);rintro e w14 ⟨rfl,hb⟩;refine ⟨_,rfl,?_⟩;have n0_:=Aside0.mk (blk_below (g:=gb104) (o:=.cells #[.int .i64 a0_0,.int .i64 a0_1,.string a0_2,.slice A0_3 l0_3.length c0_3,.string a0_4,.int .i64 a0_5] 63 (0,0)) (by (with_reducible repeat (first|refine blk_drewN ?_ _|refine blk_drew ?_|refine blk_alloc ?_ _));exact BK104.out) hb);have n1_:=Aside0.mk (below_step (by repeat (first|(with_reducible first|exact HB.out|apply below_alloc|apply pw_below_drewN|apply below_drew1|refine below_set ?_ GE104.out)|exact HB.out)) hb);clear BK104;clear HB;have BK104:=n0_;have HB:=n1_;clear n0_ n1_;(try clear hb);(try clear hb2);(try clear hk);(try clear hi);have hcz15_0:w14.cell? ⟨gb104,0,none⟩=some (.int .i64 a0_0):=(blk_cell BK104.out 0).trans rfl;have hcz15_1:w14.cell? ⟨gb104,1,none⟩=some (.int .i64 a0_1):=(blk_cell BK104.out 1).trans rfl;have hcz15_2:w14.cell? ⟨gb104,2,none⟩=some (.string a0_2):=(blk_cell BK104.out 2).trans rfl;have hcz15_3:w14.cell? ⟨gb104,3,none⟩=some (.slice A0_3 l0_3.length c0_3):=(blk_cell BK104.out 3).trans rfl;have hcz15_4:w14.cell? ⟨gb104,4,none⟩=some (.string a0_4):=(blk_cell BK104.out 4).trans rfl;have hcz15_5:w14.cell? ⟨gb104,5,none⟩=some (.int .i64 a0_5):=(blk_cell BK104.out 5).trans rfl;have hfz15_0:=blk_frozen BK104.out 0;have hfz15_1:=blk_frozen BK104.out 1;have hfz15_2:=blk_frozen BK104.out 2;have hfz15_3:=blk_frozen BK104.out 3;have hfz15_4:=blk_frozen BK104.out 4;have hfz15_5:=blk_frozen BK104.out 5))
    go_ret
    exact ⟨by first|rfl|(simp [errW_none,errW_some]<;>rfl)|(simp [*,errW_none,errW_some]<;>rfl),by repeat (first|(with_reducible first|exact HB.out|apply below_alloc|apply pw_below_drewN|apply below_drew1|refine below_set ?_ GE104.out)|exact HB.out)⟩
   ·rw [if_neg c11] at H
    have c11b0:decide ((wrap64 (t105 - (a0_4.size:Int)))<0)=false:=decide_eq_false c11
    clear c11
    obtain rfl:=Option.some.inj H
    go_enter Tryz.func22,Tryz.ntmps22
    go_wp2_with (first|((with_reducible refine gate_dst (N:=2) rfl ?_);refine box_event ?hg (N:=2) ?hd (cs:=#[.int .i64 a0_0,.int .i64 a0_1,.string a0_2,.slice A0_3 l0_3.length c0_3,.string a0_4,.int .i64 a0_5]) (t:=63) ?hr ?_;(case hd=>rfl);(case hg=>rfl);(case hr=>first|(go_simp;done)|(go_simp;rfl));intro gb104 hg w16 hbox hb;have n0_:=Aside0.mk (below_step (by repeat (first|(with_reducible first|exact HB.out|apply below_alloc|apply pw_below_drewN|apply below_drew1)|exact HB.out)) hb);have n1_:=Aside0.mk (hbox);have n2_:=Aside0.mk ((by rw [hg];exact (below_size (by repeat (first|(with_reducible first|exact HB.out|apply below_alloc|apply pw_below_drewN|apply below_drew1)|exact HB.out))):w.heap.size≤gb104));have n3_:=Aside0.mk ((by rw [hg];exact (below_size (by repeat (first|(with_reducible first|exact HB.out|apply below_alloc|apply pw_below_drewN|apply below_drew1)|exact HB.out))):w.heap.size≤gb104));clear HB;have HB:=n0_;have BK104:=n1_;have GW104:=n2_;have GE104:=n3_;clear n0_ n1_ n2_ n3_;clear hb hbox hg;have hcz17_0:w16.cell? ⟨gb104,0,none⟩=some (.int .i64 a0_0):=(blk_cell BK104.out 0).trans rfl;have hcz17_1:w16.cell? ⟨gb104,1,none⟩=some (.int .i64 a0_1):=(blk_cell BK104.out 1).trans rfl;have hcz17_2:w16.cell? ⟨gb104,2,none⟩=some (.string a0_2):=(blk_cell BK104.out 2).trans rfl;have hcz17_3:w16.cell? ⟨gb104,3,none⟩=some (.slice A0_3 l0_3.length c0_3):=(blk_cell BK104.out 3).trans rfl;have hcz17_4:w16.cell? ⟨gb104,4,none⟩=some (.string a0_4):=(blk_cell BK104.out 4).trans rfl;have hcz17_5:w16.cell? ⟨gb104,5,none⟩=some (.int .i64 a0_5):=(blk_cell BK104.out 5).trans rfl;have hfz17_0:=blk_frozen BK104.out 0;have hfz17_1:=blk_frozen BK104.out 1;have hfz17_2:=blk_frozen BK104.out 2;have hfz17_3:=blk_frozen BK104.out 3;have hfz17_4:=blk_frozen BK104.out 4;have hfz17_5:=blk_frozen BK104.out 5)|((with_reducible refine gate_callee (f:=31) rfl ?_);refine goesL_ (some 15) rfl rfl Tryz.func31 (by kernel_rfl) rfl #[.slice A0_3 l0_3.length c0_3,.int .i64 (wrap64 (a1 - (a0_2.size:Int)))] rfl (by (try simp only [List.map_toArray,List.map_cons,List.map_nil]);first|done|rfl|(simp only [List.length_drop,List.length_take];rfl)) ?_;(with_reducible refine (laws_szAttrS.calls k _ _ l0_3 (wrap64 (a1 - (a0_2.size:Int))) t105 _ ?side1 ?side2 A6.out).mono ?_);(case side1=>repeat (first|exact (Kd.C_below HR0_3.out HB.out)|(with_reducible refine Kd.C_alloc ?_ _)|(with_reducible refine Kd.C_drewN ?_ _)|(with_reducible refine Kd.C_drew ?_)));(case side2=>exact HC0_3.out);rintro e w18 ⟨rfl,hb⟩;refine ⟨_,rfl,?_⟩;have n0_:=Aside0.mk (blk_below (g:=gb104) (o:=.cells #[.int .i64 a0_0,.int .i64 a0_1,.string a0_2,.slice A0_3 l0_3.length c0_3,.string a0_4,.int .i64 a0_5] 63 (0,0)) (by (with_reducible repeat (first|refine blk_drewN ?_ _|refine blk_drew ?_|refine blk_alloc ?_ _));exact BK104.out) hb);have n1_:=Aside0.mk (below_step (by repeat (first|(with_reducible first|exact HB.out|apply below_alloc|apply pw_below_drewN|apply below_drew1|refine below_set ?_ GE104.out)|exact HB.out)) hb);clear BK104;clear HB;have BK104:=n0_;have HB:=n1_;clear n0_ n1_;(try clear hb);(try clear hb2);(try clear hk);(try clear hi);have hcz19_0:w18.cell? ⟨gb104,0,none⟩=some (.int .i64 a0_0):=(blk_cell BK104.out 0).trans rfl;have hcz19_1:w18.cell? ⟨gb104,1,none⟩=some (.int .i64 a0_1):=(blk_cell BK104.out 1).trans rfl;have hcz19_2:w18.cell? ⟨gb104,2,none⟩=some (.string a0_2):=(blk_cell BK104.out 2).trans rfl;have hcz19_3:w18.cell? ⟨gb104,3,none⟩=some (.slice A0_3 l0_3.length c0_3):=(blk_cell BK104.out 3).trans rfl;have hcz19_4:w18.cell? ⟨gb104,4,none⟩=some (.string a0_4):=(blk_cell BK104.out 4).trans rfl;have hcz19_5:w18.cell? ⟨gb104,5,none⟩=some (.int .i64 a0_5):=(blk_cell BK104.out 5).trans rfl;have hfz19_0:=blk_frozen BK104.out 0;have hfz19_1:=blk_frozen BK104.out 1;have hfz19_2:=blk_frozen BK104.out 2;have hfz19_3:=blk_frozen BK104.out 3;have hfz19_4:=blk_frozen BK104.out 4;have hfz19_5:=blk_frozen BK104.out 5))
    go_ret
    exact ⟨by first|rfl|(simp [errW_none,errW_some]<;>rfl)|(simp [*,errW_none,errW_some]<;>rfl),by repeat (first|(with_reducible first|exact HB.out|apply below_alloc|apply pw_below_drewN|apply below_drew1|refine below_set ?_ GE104.out)|exact HB.out)⟩
/-! ### laws_szNodeS: function 12 -/
def laws_szNodeS.l0:Nat→List (S63)→Int→Int→Option (Int)
 |0,_,_,_=>none
 |k+1,x0,x1,x5=>if x5<(x0.length:Int) then (if 0≤x5 then ((laws_szNode.f k ((rd_T63 x0 x5).f0) ((rd_T63 x0 x5).f1) ((rd_T63 x0 x5).f2) ((rd_T63 x0 x5).f3) ((rd_T63 x0 x5).f4) ((rd_T63 x0 x5).f5) x1).bind fun t107=>(if t107<0 then (some (-1)) else (laws_szNodeS.l0 k x0 t107 (wrap64 (x5+1))))) else (none)) else (some x1)
def laws_szNodeS.f (k:Nat) (l0:List (S63)) (a1:Int):Option (Int):=if (wrap64 (a1 - (l0.length:Int)))<0 then (some (-1)) else (laws_szNodeS.l0 k l0 (wrap64 (a1 - (l0.length:Int))) 0)
theorem laws_szNodeS.mono_l:∀ k,(∀ y0 y1 y2,LeO (laws_szNodeS.l0 k y0 y1 y2) (laws_szNodeS.l0 (k+1) y0 y1 y2))
 |0=>fun _ _ _ r h=>by simp [laws_szNodeS.l0] at h
 |k+1=>by
  have ih0:=laws_szNodeS.mono_l k
  ·intro y0 y1 y2
   unfold laws_szNodeS.l0
   repeat' first
   |(with_reducible exact ih0 _ _ _)
   |(with_reducible exact laws_szNode.mono _ _ _ _ _ _ _ _)
   |(with_reducible exact LeO.refl _)
   |(with_reducible exact LeO.none _)
   |(with_reducible refine LeO.ite ?_ ?_)
   |(with_reducible refine LeO.bind ?_ (fun _=>?_))
   |exact ih0 _ _ _
   |exact laws_szNode.mono _ _ _ _ _ _ _ _
   |exact LeO.none _
   |refine LeO.ite ?_ ?_
   |refine LeO.bind ?_ (fun _=>?_)
theorem laws_szNodeS.mono:∀ a0 a1 k,LeO (laws_szNodeS.f k a0 a1) (laws_szNodeS.f (k+1) a0 a1):=by
 intro a0 a1 k
 have ih0:=laws_szNodeS.mono_l k
 unfold laws_szNodeS.f
 repeat' first
   |(with_reducible exact ih0 _ _ _)
   |(with_reducible exact laws_szNode.mono _ _ _ _ _ _ _ _)
   |(with_reducible exact LeO.refl _)
   |(with_reducible exact LeO.none _)
   |(with_reducible refine LeO.ite ?_ ?_)
   |(with_reducible refine LeO.bind ?_ (fun _=>?_))
   |exact ih0 _ _ _
   |exact laws_szNode.mono _ _ _ _ _ _ _ _
   |exact LeO.none _
   |refine LeO.ite ?_ ?_
   |refine LeO.bind ?_ (fun _=>?_)
set_option maxHeartbeats 8000000 in
set_option maxRecDepth 100000 in
theorem laws_szNodeS.calls (k:Nat) (A0:Option Addr) (c0:Nat) (l0:List (S63)) (a1:Int) (r:Int) (w:World) (hr0:Kd.C k63 w A0 l0.length l0) (hc0:l0.length≤c0) (h:laws_szNodeS.f k l0 a1=some r) :
  Calls Tryz.prog 12 #[.slice A0 l0.length c0,.int .i64 a1] w fun e w'=>e=.returned (.int .i64 r)∧Below w.heap.size w w':=by
 have hu63:=Tryz.underlying63
 have HR0:=Aside0.mk hr0
 have HC0:=Aside0.mk hc0
 clear hr0 hc0
 have HB:=Aside0.mk (Below.refl w.heap.size w)
 have H:(if (wrap64 (a1 - (l0.length:Int)))<0 then (some (-1)) else (laws_szNodeS.l0 k l0 (wrap64 (a1 - (l0.length:Int))) 0))=some r:=h
 clear h
 by_cases c3:(wrap64 (a1 - (l0.length:Int)))<0
 ·rw [if_pos c3] at H
  have c3b0:decide ((wrap64 (a1 - (l0.length:Int)))<0)=true:=decide_eq_true c3
  clear c3
  obtain rfl:=Option.some.inj H
  go_enter Tryz.func12,Tryz.ntmps12
  go_wp2
  go_ret
  exact ⟨by first|rfl|(simp [errW_none,errW_some]<;>rfl)|(simp [*,errW_none,errW_some]<;>rfl),by repeat (first|(with_reducible first|exact HB.out|apply below_alloc|apply pw_below_drewN|apply below_drew1)|exact HB.out)⟩
 ·rw [if_neg c3] at H
  have c3b0:decide ((wrap64 (a1 - (l0.length:Int)))<0)=false:=decide_eq_false c3
  clear c3
  have H':=Aside0.mk H
  clear H
  go_enter Tryz.func12,Tryz.ntmps12
  go_wp2
  go_loopg [1,5] k (fun kq v1 v5 w'=>∃ (x1_1:Int) (x5_1:Int),v1=.int .i64 x1_1∧v5=.int .i64 x5_1∧Aside0 (laws_szNodeS.l0 kq l0 x1_1 x5_1=some r)∧Aside0 (kq≤k)∧Aside0 (Below w.heap.size w w'))
  case atStart=>exact ⟨(wrap64 (a1 - (l0.length:Int))),(0),(by first|rfl|(simp;done)|(simp [*];done)),(by first|rfl|(simp;done)|(simp [*];done)),H',⟨Nat.le_refl _⟩,⟨by repeat (first|(with_reducible first|exact HB.out|apply below_alloc|apply pw_below_drewN|apply below_drew1)|exact HB.out)⟩⟩
  case round=>
   clear H'
   try clear c1
   try clear p2
   try clear c3
   try clear c3b0
   obtain ⟨x1_1,x5_1,rfl,rfl,HA,HK1,HB⟩:=hrel
   cases gk with
   |zero=>exact absurd HA.out (by simp [laws_szNodeS.l0])
   |succ k1=>
    have H:=HA.out
    clear HA
    simp only [laws_szNodeS.l0] at H
    by_cases c4:x5_1<(l0.length:Int)
    ·rw [if_pos c4] at H
     have c4b0:decide (x5_1<(l0.length:Int))=true:=decide_eq_true c4
     clear c4
     by_cases c5:0≤x5_1
     ·rw [if_pos c5] at H
      have c5b0:decide (0≤x5_1)=true:=decide_eq_true c5
      clear c5
      replace H:=Option.bind_eq_some_iff.mp H
      obtain ⟨t107,A60,H⟩:=H
      replace H:(if t107<0 then (some (-1)) else (laws_szNodeS.l0 k1 l0 t107 (wrap64 (x5_1+1))))=some r:=H
      have A6:=Aside0.mk A60
      clear A60
      by_cases c7:t107<0
      ·rw [if_pos c7] at H
       have c7b0:decide (t107<0)=true:=decide_eq_true c7
       clear c7
       obtain rfl:=Option.some.inj H
       have p106:0≤(x5_1:Int):=of_decide_eq_true (by first|(with_reducible assumption)|assumption)
       have q106:x5_1<(l0.length:Int):=of_decide_eq_true (by first|(with_reducible assumption)|assumption)
       obtain ⟨ad106,A106_3,c106_3,e106,hx106_0,hx106_1,hx106_2,hx106_3,hx106_4,hx106_5,hl106_3,hi106_3⟩:=at_T63 HR0.out x5_1 p106 q106
       cases e106
       replace hx106_0:=(HB.out.cell (World.block_lt_of_cell? w _ hx106_0)).trans hx106_0
       replace hx106_1:=(HB.out.cell (World.block_lt_of_cell? w _ hx106_1)).trans hx106_1
       replace hx106_2:=(HB.out.cell (World.block_lt_of_cell? w _ hx106_2)).trans hx106_2
       replace hx106_3:=(HB.out.cell (World.block_lt_of_cell? w _ hx106_3)).trans hx106_3
       replace hx106_4:=(HB.out.cell (World.block_lt_of_cell? w _ hx106_4)).trans hx106_4
       replace hx106_5:=(HB.out.cell (World.block_lt_of_cell? w _ hx106_5)).trans hx106_5
       have HR106_3:=Aside0.mk hi106_3
       have HC106_3:=Aside0.mk hl106_3
       clear hi106_3 hl106_3
       replace p106:=eq_true p106
       replace q106:=eq_true q106
       go_wp2_with (first|((with_reducible refine gate_callee (f:=22) rfl ?_);refine goesL_ (some 23) rfl rfl Tryz.func22 (by kernel_rfl) rfl #[.agg #[.int .i64 ((rd_T63 l0 x5_1).f0),.int .i64 ((rd_T63 l0 x5_1).f1),.string ((rd_T63 l0 x5_1).f2),.slice A106_3 ((rd_T63 l0 x5_1).f3).length c106_3,.string ((rd_T63 l0 x5_1).f4),.int .i64 ((rd_T63 l0 x5_1).f5)],.int .i64 x1_1] rfl (by (try simp only [List.map_toArray,List.map_cons,List.map_nil]);first|done|rfl|(simp only [List.length_drop,List.length_take];rfl)) ?_;(with_reducible refine (laws_szNode.calls k1 ((rd_T63 l0 x5_1).f0) ((rd_T63 l0 x5_1).f1) ((rd_T63 l0 x5_1).f2) _ _ ((rd_T63 l0 x5_1).f3) ((rd_T63 l0 x5_1).f4) ((rd_T63 l0 x5_1).f5) x1_1 t107 _ ?side1 ?side2 A6.out).mono ?_);(case side1=>repeat (first|exact (Kd.C_below HR106_3.out HB.out)|(with_reducible refine Kd.C_alloc ?_ _)|(with_reducible refine Kd.C_drewN ?_ _)|(with_reducible refine Kd.C_drew ?_)));(case side2=>exact HC106_3.out);rintro e w8 ⟨rfl,hb⟩;refine ⟨_,rfl,?_⟩;have n0_:=Aside0.mk (below_step (by repeat (first|(with_reducible first|exact HB.out|apply below_alloc|apply pw_below_drewN|apply below_drew1)|exact HB.out)) hb);clear HB;have HB:=n0_;clear n0_;(try clear hb);(try clear hb2);(try clear hk);(try clear hi)))
       go_ret
       exact ⟨by first|rfl|(simp [errW_none,errW_some]<;>rfl)|(simp [*,errW_none,errW_some]<;>rfl),by repeat (first|(with_reducible first|exact HB.out|apply below_alloc|apply pw_below_drewN|apply below_drew1)|exact HB.out)⟩
      ·rw [if_neg c7] at H
       have c7b0:decide (t107<0)=false:=decide_eq_false c7
       clear c7
       have H':=Aside0.mk H
       clear H
       have p106:0≤(x5_1:Int):=of_decide_eq_true (by first|(with_reducible assumption)|assumption)
       have q106:x5_1<(l0.length:Int):=of_decide_eq_true (by first|(with_reducible assumption)|assumption)
       obtain ⟨ad106,A106_3,c106_3,e106,hx106_0,hx106_1,hx106_2,hx106_3,hx106_4,hx106_5,hl106_3,hi106_3⟩:=at_T63 HR0.out x5_1 p106 q106
       cases e106
       replace hx106_0:=(HB.out.cell (World.block_lt_of_cell? w _ hx106_0)).trans hx106_0
       replace hx106_1:=(HB.out.cell (World.block_lt_of_cell? w _ hx106_1)).trans hx106_1
       replace hx106_2:=(HB.out.cell (World.block_lt_of_cell? w _ hx106_2)).trans hx106_2
       replace hx106_3:=(HB.out.cell (World.block_lt_of_cell? w _ hx106_3)).trans hx106_3
       replace hx106_4:=(HB.out.cell (World.block_lt_of_cell? w _ hx106_4)).trans hx106_4
       replace hx106_5:=(HB.out.cell (World.block_lt_of_cell? w _ hx106_5)).trans hx106_5
       have HR106_3:=Aside0.mk hi106_3
       have HC106_3:=Aside0.mk hl106_3
       clear hi106_3 hl106_3
       replace p106:=eq_true p106
       replace q106:=eq_true q106
       go_wp2_with (first|((with_reducible refine gate_callee (f:=22) rfl ?_);refine goesL_ (some 23) rfl rfl Tryz.func22 (by kernel_rfl) rfl #[.agg #[.int .i64 ((rd_T63 l0 x5_1).f0),.int .i64 ((rd_T63 l0 x5_1).f1),.string ((rd_T63 l0 x5_1).f2),.slice A106_3 ((rd_T63 l0 x5_1).f3).length c106_3,.string ((rd_T63 l0 x5_1).f4),.int .i64 ((rd_T63 l0 x5_1).f5)],.int .i64 x1_1] rfl (by (try simp only [List.map_toArray,List.map_cons,List.map_nil]);first|done|rfl|(simp only [List.length_drop,List.length_take];rfl)) ?_;(with_reducible refine (laws_szNode.calls k1 ((rd_T63 l0 x5_1).f0) ((rd_T63 l0 x5_1).f1) ((rd_T63 l0 x5_1).f2) _ _ ((rd_T63 l0 x5_1).f3) ((rd_T63 l0 x5_1).f4) ((rd_T63 l0 x5_1).f5) x1_1 t107 _ ?side1 ?side2 A6.out).mono ?_);(case side1=>repeat (first|exact (Kd.C_below HR106_3.out HB.out)|(with_reducible refine Kd.C_alloc ?_ _)|(with_reducible refine Kd.C_drewN ?_ _)|(with_reducible refine Kd.C_drew ?_)));(case side2=>exact HC106_3.out);rintro e w9 ⟨rfl,hb⟩;refine ⟨_,rfl,?_⟩;have n0_:=Aside0.mk (below_step (by repeat (first|(with_reducible first|exact HB.out|apply below_alloc|apply pw_below_drewN|apply below_drew1)|exact HB.out)) hb);clear HB;have HB:=n0_;clear n0_;(try clear hb);(try clear hb2);(try clear hk);(try clear hi)))
       go_roundg k1
       case measure=>have:=HK1.out;omega
       case rel=>exact ⟨(t107),(wrap64 (x5_1+1)),(by first|rfl|(simp;done)|(simp [*];done)),(by first|rfl|(simp;done)|(simp [*];done)),H',⟨by have:=HK1.out;omega⟩,⟨by repeat (first|(with_reducible first|exact HB.out|apply below_alloc|apply pw_below_drewN|apply below_drew1)|exact HB.out)⟩⟩
     ·rw [if_neg c5] at H
      exact absurd H (by simp)
    ·rw [if_neg c4] at H
     have c4b0:decide (x5_1<(l0.length:Int))=false:=decide_eq_false c4
     clear c4
     obtain rfl:=Option.some.inj H
     go_wp2
     go_ret
     exact ⟨by first|rfl|(simp [errW_none,errW_some]<;>rfl)|(simp [*,errW_none,errW_some]<;>rfl),by repeat (first|(with_reducible first|exact HB.out|apply below_alloc|apply pw_below_drewN|apply below_drew1)|exact HB.out)⟩
/-! ### laws_szTree: function 5 -/
def laws_szTree.f (k:Nat) (l0_0:List (S63)) (a1:Int):Option (Int):=(laws_szNodeS.f k l0_0 a1).bind fun t109=>(if t109<0 then (some (-1)) else (some t109))
theorem laws_szTree.mono:∀ a0 a1 k,LeO (laws_szTree.f k a0 a1) (laws_szTree.f (k+1) a0 a1):=by
 intro a0 a1 k
 unfold laws_szTree.f
 repeat' first
   |(with_reducible exact laws_szNodeS.mono _ _ _)
   |(with_reducible exact LeO.refl _)
   |(with_reducible exact LeO.none _)
   |(with_reducible refine LeO.ite ?_ ?_)
   |(with_reducible refine LeO.bind ?_ (fun _=>?_))
   |exact laws_szNodeS.mono _ _ _
   |exact LeO.none _
   |refine LeO.ite ?_ ?_
   |refine LeO.bind ?_ (fun _=>?_)
set_option maxHeartbeats 8000000 in
set_option maxRecDepth 100000 in
theorem laws_szTree.calls (k:Nat) (A0_0:Option Addr) (c0_0:Nat) (l0_0:List (S63)) (a1:Int) (r:Int) (w:World) (hr0_0:Kd.C k63 w A0_0 l0_0.length l0_0) (hc0_0:l0_0.length≤c0_0) (h:laws_szTree.f k l0_0 a1=some r) :
  Calls Tryz.prog 5 #[.agg #[.slice A0_0 l0_0.length c0_0],.int .i64 a1] w fun e w'=>e=.returned (.int .i64 r)∧Below w.heap.size w w':=by
 have hu24:=Tryz.underlying24
 have HR0_0:=Aside0.mk hr0_0
 have HC0_0:=Aside0.mk hc0_0
 clear hr0_0 hc0_0
 have HB:=Aside0.mk (Below.refl w.heap.size w)
 have H:((laws_szNodeS.f k l0_0 a1).bind fun t109=>(if t109<0 then (some (-1)) else (some t109)))=some r:=h
 clear h
 replace H:=Option.bind_eq_some_iff.mp H
 obtain ⟨t109,A30,H⟩:=H
 replace H:(if t109<0 then (some (-1)) else (some t109))=some r:=H
 have A3:=Aside0.mk A30
 clear A30
 by_cases c4:t109<0
 ·rw [if_pos c4] at H
  have c4b0:decide (t109<0)=true:=decide_eq_true c4
  clear c4
  obtain rfl:=Option.some.inj H
  go_enter Tryz.func5,Tryz.ntmps5
  go_wp2_with (first|((with_reducible refine gate_dst (N:=2) rfl ?_);refine box_event ?hg (N:=2) ?hd (cs:=#[.slice A0_0 l0_0.length c0_0]) (t:=24) ?hr ?_;(case hd=>rfl);(case hg=>rfl);(case hr=>first|(go_simp;done)|(go_simp;rfl));intro gb108 hg w5 hbox hb;have n0_:=Aside0.mk (below_step (by repeat (first|(with_reducible first|exact HB.out|apply below_alloc|apply pw_below_drewN|apply below_drew1)|exact HB.out)) hb);have n1_:=Aside0.mk (hbox);have n2_:=Aside0.mk ((by rw [hg];exact (below_size (by repeat (first|(with_reducible first|exact HB.out|apply below_alloc|apply pw_below_drewN|apply below_drew1)|exact HB.out))):w.heap.size≤gb108));have n3_:=Aside0.mk ((by rw [hg];exact (below_size (by repeat (first|(with_reducible first|exact HB.out|apply below_alloc|apply pw_below_drewN|apply below_drew1)|exact HB.out))):w.heap.size≤gb108));clear HB;have HB:=n0_;have BK108:=n1_;have GW108:=n2_;have GE108:=n3_;clear n0_ n1_ n2_ n3_;clear hb hbox hg;have hcz6_0:w5.cell? ⟨gb108,0,none⟩=some (.slice A0_0 l0_0.length c0_0):=(blk_cell BK108.out 0).trans rfl;have hfz6_0:=blk_frozen BK108.out 0)|((with_reducible refine gate_callee (f:=12) rfl ?_);refine goesL_ (some 8) rfl rfl Tryz.func12 (by kernel_rfl) rfl #[.slice A0_0 l0_0.length c0_0,.int .i64 a1] rfl (by (try simp only [List.map_toArray,List.map_cons,List.map_nil]);first|done|rfl|(simp only [List.length_drop,List.length_take];rfl)) ?_;(with_reducible refine (laws_szNodeS.calls k _ _ l0_0 a1 t109 _ ?side1 ?side2 A3.out).mono ?_);(case side1=>repeat (first|exact (Kd.C_below HR0_0.out HB.out)|(with_reducible refine Kd.C_alloc ?_ _)|(with_reducible refine Kd.C_drewN ?_ _)|(with_reducible refine Kd.C_drew ?_)));(case side2=>exact HC0_0.out);rintro e w7 ⟨rfl,hb⟩;refine ⟨_,rfl,?_⟩;have n0_:=Aside0.mk (blk_below (g:=gb108) (o:=.cells #[.slice A0_0 l0_0.length c0_0] 24 (0,0)) (by (with_reducible repeat (first|refine blk_drewN ?_ _|refine blk_drew ?_|refine blk_alloc ?_ _));exact BK108.out) hb);have n1_:=Aside0.mk (below_step (by repeat (first|(with_reducible first|exact HB.out|apply below_alloc|apply pw_below_drewN|apply below_drew1|refine below_set ?_ GE108.out)|exact HB.out)) hb);clear BK108;clear HB;have BK108:=n0_;have HB:=n1_;clear n0_ n1_;(try clear hb);(try clear hb2);(try clear hk);(try clear hi)))
  go_ret
  exact ⟨by first|rfl|(simp [errW_none,errW_some]<;>rfl)|(simp [*,errW_none,errW_some]<;>rfl),by repeat (first|(with_reducible first|exact HB.out|apply below_alloc|apply pw_below_drewN|apply below_drew1|refine below_set ?_ GE108.out)|exact HB.out)⟩
 ·rw [if_neg c4] at H
  have c4b0:decide (t109<0)=false:=decide_eq_false c4
  clear c4
  obtain rfl:=Option.some.inj H
  go_enter Tryz.func5,Tryz.ntmps5
  go_wp2_with (first|((with_reducible refine gate_dst (N:=2) rfl ?_);refine box_event ?hg (N:=2) ?hd (cs:=#[.slice A0_0 l0_0.length c0_0]) (t:=24) ?hr ?_;(case hd=>rfl);(case hg=>rfl);(case hr=>first|(go_simp;done)|(go_simp;rfl));intro gb108 hg w8 hbox hb;have n0_:=Aside0.mk (below_step (by repeat (first|(with_reducible first|exact HB.out|apply below_alloc|apply pw_below_drewN|apply below_drew1)|exact HB.out)) hb);have n1_:=Aside0.mk (hbox);have n2_:=Aside0.mk ((by rw [hg];exact (below_size (by repeat (first|(with_reducible first|exact HB.out|apply below_alloc|apply pw_below_drewN|apply below_drew1)|exact HB.out))):w.heap.size≤gb108));have n3_:=Aside0.mk ((by rw [hg];exact (below_size (by repeat (first|(with_reducible first|exact HB.out|apply below_alloc|apply pw_below_drewN|apply below_drew1)|exact HB.out))):w.heap.size≤gb108));clear HB;have HB:=n0_;have BK108:=n1_;have GW108:=n2_;have GE108:=n3_;clear n0_ n1_ n2_ n3_;clear hb hbox hg;have hcz9_0:w8.cell? ⟨gb108,0,none⟩=some (.slice A0_0 l0_0.length c0_0):=(blk_cell BK108.out 0).trans rfl;have hfz9_0:=blk_frozen BK108.out 0)|((with_reducible refine gate_callee (f:=12) rfl ?_);refine goesL_ (some 8) rfl rfl Tryz.func12 (by kernel_rfl) rfl #[.slice A0_0 l0_0.length c0_0,.int .i64 a1] rfl (by (try simp only [List.map_toArray,List.map_cons,List.map_nil]);first|done|rfl|(simp only [List.length_drop,List.length_take];rfl)) ?_;(with_reducible refine (laws_szNodeS.calls k _ _ l0_0 a1 t109 _ ?side1 ?side2 A3.out).mono ?_);(case side1=>repeat (first|exact (Kd.C_below HR0_0.out HB.out)|(with_reducible refine Kd.C_alloc ?_ _)|(with_reducible refine Kd.C_drewN ?_ _)|(with_reducible refine Kd.C_drew ?_)));(case side2=>exact HC0_0.out);rintro e w10 ⟨rfl,hb⟩;refine ⟨_,rfl,?_⟩;have n0_:=Aside0.mk (blk_below (g:=gb108) (o:=.cells #[.slice A0_0 l0_0.length c0_0] 24 (0,0)) (by (with_reducible repeat (first|refine blk_drewN ?_ _|refine blk_drew ?_|refine blk_alloc ?_ _));exact BK108.out) hb);have n1_:=Aside0.mk (below_step (by repeat (first|(with_reducible first|exact HB.out|apply below_alloc|apply pw_below_drewN|apply below_drew1|refine below_set ?_ GE108.out)|exact HB.out)) hb);clear BK108;clear HB;have BK108:=n0_;have HB:=n1_;clear n0_ n1_;(try clear hb);(try clear hb2);(try clear hk);(try clear hi)))
  go_ret
  exact ⟨by first|rfl|(simp [errW_none,errW_some]<;>rfl)|(simp [*,errW_none,errW_some]<;>rfl),by repeat (first|(with_reducible first|exact HB.out|apply below_alloc|apply pw_below_drewN|apply below_drew1|refine below_set ?_ GE108.out)|exact HB.out)⟩
/-! ### laws_toAttr: function 48 -/
def laws_toAttr.f (a0_0:ByteArray) (a0_1:ByteArray):Option (ByteArray×ByteArray):=some (a0_0,a0_1)
set_option maxHeartbeats 8000000 in
set_option maxRecDepth 100000 in
theorem laws_toAttr.calls (a0_0:ByteArray) (a0_1:ByteArray) (r1:ByteArray) (r2:ByteArray) (w:World) (h:laws_toAttr.f a0_0 a0_1=some (r1,r2)) :
  Calls Tryz.prog 48 #[.agg #[.string a0_0,.string a0_1]] w fun e w'=>e=.returned (.agg #[.string r1,.string r2])∧Below w.heap.size w w':=by
 have hu91:=Tryz.underlying91
 have hu77:=Tryz.underlying77
 have HB:=Aside0.mk (Below.refl w.heap.size w)
 have H:(some (a0_0,a0_1))=some (r1,r2):=h
 clear h
 simp only [Option.some.injEq,Prod.mk.injEq] at H
 obtain ⟨rfl,rfl⟩:=H
 go_enter Tryz.func48,Tryz.ntmps48
 go_wp2_with (first|((with_reducible refine gate_dst (N:=1) rfl ?_);refine box_event ?hg (N:=1) ?hd (cs:=#[.string a0_0,.string a0_1]) (t:=91) ?hr ?_;(case hd=>rfl);(case hg=>rfl);(case hr=>first|(go_simp;done)|(go_simp;rfl));intro gb110 hg w2 hbox hb;have n0_:=Aside0.mk (below_step (by repeat (first|(with_reducible first|exact HB.out|apply below_alloc|apply pw_below_drewN|apply below_drew1)|exact HB.out)) hb);have n1_:=Aside0.mk (hbox);have n2_:=Aside0.mk ((by rw [hg];exact (below_size (by repeat (first|(with_reducible first|exact HB.out|apply below_alloc|apply pw_below_drewN|apply below_drew1)|exact HB.out))):w.heap.size≤gb110));have n3_:=Aside0.mk ((by rw [hg];exact (below_size (by repeat (first|(with_reducible first|exact HB.out|apply below_alloc|apply pw_below_drewN|apply below_drew1)|exact HB.out))):w.heap.size≤gb110));clear HB;have HB:=n0_;have BK110:=n1_;have GW110:=n2_;have GE110:=n3_;clear n0_ n1_ n2_ n3_;clear hb hbox hg)|((with_reducible refine gate_dst (N:=2) rfl ?_);refine box_event ?hg (N:=2) ?hd (cs:=#[.string (⟨#[]⟩:ByteArray),.string (⟨#[]⟩:ByteArray)]) (t:=77) ?hr ?_;(case hd=>rfl);(case hg=>rfl);(case hr=>first|(go_simp;done)|(go_simp;rfl));intro gb111 hg w3 hbox hb;have n0_:=Aside0.mk (blk_below (g:=gb110) (o:=.cells #[.string a0_0,.string a0_1] 91 (0,0)) (by (with_reducible repeat (first|refine blk_drewN ?_ _|refine blk_drew ?_|refine blk_alloc ?_ _));exact BK110.out) hb);have n1_:=Aside0.mk (below_step (by repeat (first|(with_reducible first|exact HB.out|apply below_alloc|apply pw_below_drewN|apply below_drew1|refine below_set ?_ GE110.out)|exact HB.out)) hb);have n2_:=Aside0.mk (hbox);have n3_:=Aside0.mk ((by rw [hg];exact (below_size (by repeat (first|(with_reducible first|exact HB.out|apply below_alloc|apply pw_below_drewN|apply below_drew1|refine below_set ?_ GE110.out)|exact HB.out))):w.heap.size≤gb111));have n4_:=Aside0.mk ((by rw [hg];exact (below_size (by repeat (first|(with_reducible first|exact HB.out|apply below_alloc|apply pw_below_drewN|apply below_drew1|refine below_set ?_ GE110.out)|exact HB.out))):w.heap.size≤gb111));have n5_:=Aside0.mk ((by rw [hg];exact Nat.ne_of_lt (blk_lt (g:=gb110) (o:=.cells #[.string a0_0,.string a0_1] 91 (0,0)) (by (with_reducible repeat (first|refine blk_drewN ?_ _|refine blk_drew ?_|refine blk_alloc ?_ _));exact BK110.out)):gb110≠gb111));have n6_:=Aside0.mk ((by rw [hg];exact Nat.ne_of_gt (blk_lt (g:=gb110) (o:=.cells #[.string a0_0,.string a0_1] 91 (0,0)) (by (with_reducible repeat (first|refine blk_drewN ?_ _|refine blk_drew ?_|refine blk_alloc ?_ _));exact BK110.out)):gb111≠gb110));clear BK110;clear HB;have BK110:=n0_;have HB:=n1_;have BK111:=n2_;have GW111:=n3_;have GE111:=n4_;have NB110_111:=n5_;have NB111_110:=n6_;clear n0_ n1_ n2_ n3_ n4_ n5_ n6_;clear hb hbox hg)|((with_reducible refine gate_dst (N:=3) rfl ?_);refine box_event ?hg (N:=3) ?hd (cs:=#[.string (⟨#[]⟩:ByteArray),.string (⟨#[]⟩:ByteArray)]) (t:=77) ?hr ?_;(case hd=>rfl);(case hg=>rfl);(case hr=>first|(go_simp;done)|(go_simp;rfl));intro gb112 hg w4 hbox hb;have n0_:=Aside0.mk (blk_below (g:=gb110) (o:=.cells #[.string a0_0,.string a0_1] 91 (0,0)) (by (with_reducible repeat (first|refine blk_drewN ?_ _|refine blk_drew ?_|refine blk_alloc ?_ _));exact BK110.out) hb);have n1_:=Aside0.mk (blk_below (g:=gb111) (o:=.cells #[.string (⟨#[]⟩:ByteArray),.string (⟨#[]⟩:ByteArray)] 77 (0,0)) (by (with_reducible repeat (first|refine blk_drewN ?_ _|refine blk_drew ?_|refine blk_alloc ?_ _));exact BK111.out) hb);have n2_:=Aside0.mk (below_step (by repeat (first|(with_reducible first|exact HB.out|apply below_alloc|apply pw_below_drewN|apply below_drew1|refine below_set ?_ GE110.out|refine below_set ?_ GE111.out)|exact HB.out)) hb);have n3_:=Aside0.mk (hbox);have n4_:=Aside0.mk ((by rw [hg];exact (below_size (by repeat (first|(with_reducible first|exact HB.out|apply below_alloc|apply pw_below_drewN|apply below_drew1|refine below_set ?_ GE110.out|refine below_set ?_ GE111.out)|exact HB.out))):w.heap.size≤gb112));have n5_:=Aside0.mk ((by rw [hg];exact (below_size (by repeat (first|(with_reducible first|exact HB.out|apply below_alloc|apply pw_below_drewN|apply below_drew1|refine below_set ?_ GE110.out|refine below_set ?_ GE111.out)|exact HB.out))):w.heap.size≤gb112));have n6_:=Aside0.mk ((by rw [hg];exact Nat.ne_of_lt (blk_lt (g:=gb110) (o:=.cells #[.string a0_0,.string a0_1] 91 (0,0)) (by (with_reducible repeat (first|refine blk_drewN ?_ _|refine blk_drew ?_|refine blk_alloc ?_ _));exact BK110.out)):gb110≠gb112));have n7_:=Aside0.mk ((by rw [hg];exact Nat.ne_of_gt (blk_lt (g:=gb110) (o:=.cells #[.string a0_0,.string a0_1] 91 (0,0)) (by (with_reducible repeat (first|refine blk_drewN ?_ _|refine blk_drew ?_|refine blk_alloc ?_ _));exact BK110.out)):gb112≠gb110));have n8_:=Aside0.mk ((by rw [hg];exact Nat.ne_of_lt (blk_lt (g:=gb111) (o:=.cells #[.string (⟨#[]⟩:ByteArray),.string (⟨#[]⟩:ByteArray)] 77 (0,0)) (by (with_reducible repeat (first|refine blk_drewN ?_ _|refine blk_drew ?_|refine blk_alloc ?_ _));exact BK111.out)):gb111≠gb112));have n9_:=Aside0.mk ((by rw [hg];exact Nat.ne_of_gt (blk_lt (g:=gb111) (o:=.cells #[.string (⟨#[]⟩:ByteArray),.string (⟨#[]⟩:ByteArray)] 77 (0,0)) (by (with_reducible repeat (first|refine blk_drewN ?_ _|refine blk_drew ?_|refine blk_alloc ?_ _));exact BK111.out)):gb112≠gb111));clear BK110;clear BK111;clear HB;have BK110:=n0_;have BK111:=n1_;have HB:=n2_;have BK112:=n3_;have GW112:=n4_;have GE112:=n5_;have NB110_112:=n6_;have NB112_110:=n7_;have NB111_112:=n8_;have NB112_111:=n9_;clear n0_ n1_ n2_ n3_ n4_ n5_ n6_ n7_ n8_ n9_;clear hb hbox hg;have hnb5:=NB110_111.out;have hnc5:=NB111_110.out;have hnb6:=NB110_112.out;have hnc6:=NB112_110.out;have hcz7_0:w4.cell? ⟨gb110,0,none⟩=some (.string a0_0):=(blk_cell BK110.out 0).trans rfl;have hcz7_1:w4.cell? ⟨gb110,1,none⟩=some (.string a0_1):=(blk_cell BK110.out 1).trans rfl;have hfz7_0:=blk_frozen BK110.out 0;have hfz7_1:=blk_frozen BK110.out 1;have hnb8:=NB112_111.out;have hnc8:=NB111_112.out;have hcz9_0:w4.cell? ⟨gb112,0,none⟩=some (.string (⟨#[]⟩:ByteArray)):=(blk_cell BK112.out 0).trans rfl;have hcz9_1:w4.cell? ⟨gb112,1,none⟩=some (.string (⟨#[]⟩:ByteArray)):=(blk_cell BK112.out 1).trans rfl;have hfz9_0:=blk_frozen BK112.out 0;have hfz9_1:=blk_frozen BK112.out 1;have hcz10_0:w4.cell? ⟨gb111,0,none⟩=some (.string (⟨#[]⟩:ByteArray)):=(blk_cell BK111.out 0).trans rfl;have hcz10_1:w4.cell? ⟨gb111,1,none⟩=some (.string (⟨#[]⟩:ByteArray)):=(blk_cell BK111.out 1).trans rfl;have hfz10_0:=blk_frozen BK111.out 0;have hfz10_1:=blk_frozen BK111.out 1))
 refine bodyPost_ret (results_cell_row rfl _ _ gb111 77 #[.string a0_0,.string a0_1] (0,0) _ rfl (by (with_reducible repeat (first|refine blk_drewN ?_ _|refine blk_drew ?_|refine blk_alloc ?_ _));refine blk_put (cs:=#[.string a0_0,.string (⟨#[]⟩:ByteArray)]) ?_ 1 _ rfl;(with_reducible repeat (first|refine blk_drewN ?_ _|refine blk_drew ?_|refine blk_alloc ?_ _));refine blk_put (cs:=#[.string (⟨#[]⟩:ByteArray),.string (⟨#[]⟩:ByteArray)]) ?_ 0 _ rfl;(with_reducible repeat (first|refine blk_drewN ?_ _|refine blk_drew ?_|refine blk_alloc ?_ _));refine blk_far ?_ NB111_112.out _;(with_reducible repeat (first|refine blk_drewN ?_ _|refine blk_drew ?_|refine blk_alloc ?_ _));refine blk_far ?_ NB111_112.out _;(with_reducible repeat (first|refine blk_drewN ?_ _|refine blk_drew ?_|refine blk_alloc ?_ _));exact BK111.out) Tryz.underlying77 rfl (by kernel_rfl)) rfl ?_
 exact ⟨by first|rfl|(simp [errW_none,errW_some]<;>rfl)|(simp [*,errW_none,errW_some]<;>rfl),by repeat (first|(with_reducible first|exact HB.out|apply below_alloc|apply pw_below_drewN|apply below_drew1|refine below_set ?_ GE110.out|refine below_set ?_ GE111.out|refine below_set ?_ GE112.out)|exact HB.out)⟩
/-! ### laws_toAttrS: function 37 -/
def laws_toAttrS.l0:Nat→List (S91)→List (S77)→Int→Option ((List (S77)))
 |0,_,_,_=>none
 |k+1,x0,x3,x4=>if x4<(x0.length:Int) then (if 0≤x4 then ((laws_toAttr.f ((rd_T91 x0 x4).f0) ((rd_T91 x0 x4).f1)).bind fun bt117=>(if x4<(x3.length:Int) then (laws_toAttrS.l0 k x0 (x3.set (x4:Int).toNat (⟨bt117.1,bt117.2⟩:S77)) (wrap64 (x4+1))) else (none))) else (none)) else (some x3)
def laws_toAttrS.f (k:Nat) (l0:List (S91)):Option ((List (S77))):=if 0≤(l0.length:Int) then (if ((l0.length:Int):Int).toNat≤8796093022208 then (laws_toAttrS.l0 k l0 (List.replicate ((l0.length:Int):Int).toNat z77) 0) else (none)) else (none)
theorem laws_toAttrS.mono_l:∀ k,(∀ y0 y1 y2,LeO (laws_toAttrS.l0 k y0 y1 y2) (laws_toAttrS.l0 (k+1) y0 y1 y2))
 |0=>fun _ _ _ r h=>by simp [laws_toAttrS.l0] at h
 |k+1=>by
  have ih0:=laws_toAttrS.mono_l k
  ·intro y0 y1 y2
   unfold laws_toAttrS.l0
   repeat' first
   |(with_reducible exact ih0 _ _ _)
   |(with_reducible exact LeO.refl _)
   |(with_reducible exact LeO.none _)
   |(with_reducible refine LeO.ite ?_ ?_)
   |(with_reducible refine LeO.bind ?_ (fun _=>?_))
   |exact ih0 _ _ _
   |exact LeO.none _
   |refine LeO.ite ?_ ?_
   |refine LeO.bind ?_ (fun _=>?_)
theorem laws_toAttrS.mono:∀ a0 k,LeO (laws_toAttrS.f k a0) (laws_toAttrS.f (k+1) a0):=by
 intro a0 k
 have ih0:=laws_toAttrS.mono_l k
 unfold laws_toAttrS.f
 repeat' first
   |(with_reducible exact ih0 _ _ _)
   |(with_reducible exact LeO.refl _)
   |(with_reducible exact LeO.none _)
   |(with_reducible refine LeO.ite ?_ ?_)
   |(with_reducible refine LeO.bind ?_ (fun _=>?_))
   |exact ih0 _ _ _
   |exact LeO.none _
   |refine LeO.ite ?_ ?_
   |refine LeO.bind ?_ (fun _=>?_)
set_option maxHeartbeats 8000000 in
set_option maxRecDepth 100000 in
theorem laws_toAttrS.calls (k:Nat) (A0:Option Addr) (c0:Nat) (l0:List (S91)) (r:List (S77)) (w:World) (hr0:Kd.C k91 w A0 l0.length l0) (hc0:l0.length≤c0) (h:laws_toAttrS.f k l0=some r) :
  Calls Tryz.prog 37 #[.slice A0 l0.length c0] w fun e w'=>∃ v0_:Value,e=.returned (v0_)∧Kd.R k77 77 w' w.heap.size (fun _=>True) v0_ r∧Below w.heap.size w w':=by
 have hu91:=Tryz.underlying91
 have hu77:=Tryz.underlying77
 have HR0:=Aside0.mk hr0
 have HC0:=Aside0.mk hc0
 clear hr0 hc0
 have HB:=Aside0.mk (Below.refl w.heap.size w)
 have H:(if 0≤(l0.length:Int) then (if ((l0.length:Int):Int).toNat≤8796093022208 then (laws_toAttrS.l0 k l0 (List.replicate ((l0.length:Int):Int).toNat z77) 0) else (none)) else (none))=some r:=h
 clear h
 by_cases c2:0≤(l0.length:Int)
 ·rw [if_pos c2] at H
  have c2b0:=eq_true c2
  have c2b1:decide (0≤(l0.length:Int))=true:=decide_eq_true c2
  clear c2
  by_cases c3:((l0.length:Int):Int).toNat≤8796093022208
  ·rw [if_pos c3] at H
   have c3b0:=eq_true c3
   have c3b1:decide (((l0.length:Int):Int).toNat≤8796093022208)=true:=decide_eq_true c3
   clear c3
   obtain ⟨y113,hy113⟩:∃ y_:List (S77),y_=(List.replicate ((l0.length:Int):Int).toNat z77):=⟨_,rfl⟩
   replace H:(laws_toAttrS.l0 k l0 y113 0)=some r:=by first|(rw [hy113];with_reducible exact H)|(have H2_:=(Option.bind_some _ _).symm.trans H;rw [hy113];with_reducible exact H2_)|(have H2_:=(Option.bind_some _ _).symm.trans H;with_reducible exact H2_)|with_reducible exact H|(rw [hy113];exact H)|exact H
   have Ny113:=Aside0.mk hy113
   clear hy113
   have H':=Aside0.mk H
   clear H
   go_enter Tryz.func37,Tryz.ntmps37
   go_wp2_with (first|((with_reducible refine gate_dst (N:=7) rfl ?_);refine Kd.R_make k77 _ 77 rfl (N:=7) rfl 55 _ _ rfl (l0.length:Int) rfl rfl Tryz.underlying55 (.agg #[(.string ⟨#[]⟩),(.string ⟨#[]⟩)]) 32 info77 rfl (by decide) (by omega) z77 (ok:=fun _=>True) (okp:=fun _=>True) (k77_mkM _ _ _ z77) (fun _ hk=>hk) trivial (of_decide_eq_true (by first|(with_reducible assumption)|assumption)) (Nat.le_trans (Nat.mul_le_mul_right _ (of_decide_eq_true (by first|(with_reducible assumption)|assumption):(l0.length:Int).toNat≤8796093022208)) (by omega)) (Below.refl _ _) (Nat.le_refl _) ?_;intro v114 w4 ho5 hb hg_ hnew_;clear hg_ hnew_;(first|rw [← Ny113.out] at ho5|(simp only [Int.reduceToNat] at ho5;rw [← Ny113.out] at ho5));have n0_:=Aside0.mk (Kd.R_lower ho5 (below_size (by repeat (first|(with_reducible first|exact HB.out|apply below_alloc|apply pw_below_drewN|apply below_drew1)|exact HB.out))));have n1_:=Aside0.mk (below_step (by repeat (first|(with_reducible first|exact HB.out|apply below_alloc|apply pw_below_drewN|apply below_drew1)|exact HB.out)) hb);clear HB;have HO115:=n0_;have HB:=n1_;clear n0_ n1_;clear hb ho5))
   go_loopg [4] k (fun kq v4 w'=>∃ (x3_1:List (S77)) (x4_1:Int),v4=.int .i64 x4_1∧Aside0 (laws_toAttrS.l0 kq l0 x3_1 x4_1=some r)∧Aside0 (kq≤k)∧Aside0 (Kd.R k77 77 w' w.heap.size (fun _=>True) v114 x3_1)∧Aside0 (Below w.heap.size w w'))
   case atStart=>exact ⟨(y113),(0),(by first|rfl|(simp;done)|(simp [*];done)),H',⟨Nat.le_refl _⟩,⟨by (with_reducible repeat (first|apply Kd.R_alloc|apply Kd.R_drewN|apply Kd.R_drew));exact HO115.out⟩,⟨by repeat (first|(with_reducible first|exact HB.out|apply below_alloc|apply pw_below_drewN|apply below_drew1)|exact HB.out)⟩⟩
   case round=>
    clear H'
    try clear c2
    try clear c2b0
    try clear c2b1
    try clear p2
    try clear c3
    try clear c3b0
    try clear c3b1
    obtain ⟨x3_1,x4_1,rfl,HA,HK1,HO_3,HB⟩:=hrel
    cases gk with
    |zero=>exact absurd HA.out (by simp [laws_toAttrS.l0])
    |succ k1=>
     have H:=HA.out
     clear HA
     simp only [laws_toAttrS.l0] at H
     by_cases c6:x4_1<(l0.length:Int)
     ·rw [if_pos c6] at H
      have c6b0:decide (x4_1<(l0.length:Int))=true:=decide_eq_true c6
      clear c6
      by_cases c7:0≤x4_1
      ·rw [if_pos c7] at H
       have c7b0:decide (0≤x4_1)=true:=decide_eq_true c7
       clear c7
       replace H:=Option.bind_eq_some_iff.mp H
       obtain ⟨⟨t117,t118⟩,A80,H⟩:=H
       replace H:(if x4_1<(x3_1.length:Int) then (laws_toAttrS.l0 k1 l0 (x3_1.set (x4_1:Int).toNat (⟨t117,t118⟩:S77)) (wrap64 (x4_1+1))) else (none))=some r:=H
       have A8:=Aside0.mk A80
       clear A80
       by_cases c9:x4_1<(x3_1.length:Int)
       ·rw [if_pos c9] at H
        have c9b0:decide (x4_1<(x3_1.length:Int))=true:=decide_eq_true c9
        clear c9
        obtain ⟨y119,hy119⟩:∃ y_:List (S77),y_=(x3_1.set (x4_1:Int).toNat (⟨t117,t118⟩:S77)):=⟨_,rfl⟩
        replace H:(laws_toAttrS.l0 k1 l0 y119 (wrap64 (x4_1+1)))=some r:=by first|(rw [hy119];with_reducible exact H)|(have H2_:=(Option.bind_some _ _).symm.trans H;rw [hy119];with_reducible exact H2_)|(have H2_:=(Option.bind_some _ _).symm.trans H;with_reducible exact H2_)|with_reducible exact H|(rw [hy119];exact H)|exact H
        have Ny119:=Aside0.mk hy119
        clear hy119
        have H':=Aside0.mk H
        clear H
        have p116:0≤(x4_1:Int):=of_decide_eq_true (by first|(with_reducible assumption)|assumption)
        have q116:x4_1<(l0.length:Int):=of_decide_eq_true (by first|(with_reducible assumption)|assumption)
        obtain ⟨ad116,e116,hx116_0,hx116_1⟩:=at_T91 HR0.out x4_1 p116 q116
        cases e116
        replace hx116_0:=(HB.out.cell (World.block_lt_of_cell? w _ hx116_0)).trans hx116_0
        replace hx116_1:=(HB.out.cell (World.block_lt_of_cell? w _ hx116_1)).trans hx116_1
        replace p116:=eq_true p116
        replace q116:=eq_true q116
        go_wp2_with (first|((with_reducible refine gate_callee (f:=48) rfl ?_);refine goesL_ (some 20) rfl rfl Tryz.func48 (by kernel_rfl) rfl #[.agg #[.string ((rd_T91 l0 x4_1).f0),.string ((rd_T91 l0 x4_1).f1)]] rfl (by (try simp only [List.map_toArray,List.map_cons,List.map_nil]);first|done|rfl|(simp only [List.length_drop,List.length_take];rfl)) ?_;(with_reducible refine (laws_toAttr.calls ((rd_T91 l0 x4_1).f0) ((rd_T91 l0 x4_1).f1) t117 t118 _ A8.out).mono ?_);rintro e w11 ⟨rfl,hb⟩;refine ⟨_,rfl,?_⟩;have n0_:=Aside0.mk (Kd.R_below (by (with_reducible repeat (first|apply Kd.R_alloc|apply Kd.R_drewN|apply Kd.R_drew));exact HO_3.out) hb);have n1_:=Aside0.mk (below_step (by repeat (first|(with_reducible first|exact HB.out|apply below_alloc|apply pw_below_drewN|apply below_drew1)|exact HB.out)) hb);clear HO_3;clear HB;have HO_3:=n0_;have HB:=n1_;clear n0_ n1_;(try clear hb);(try clear hb2);(try clear hk);(try clear hi);have p10:0≤(x4_1:Int):=of_decide_eq_true (by first|(with_reducible assumption)|assumption);have q10:(x4_1:Int)<((x3_1.length:Int):Int):=of_decide_eq_true (by first|(with_reducible assumption)|assumption);obtain ⟨go10,co10,eo10,gb10,gl10,cl10,HG10⟩:=Kd.R_form HO_3.out (by omega);(first|cases eo10|(injection eo10 with ea_ en_ ec_;(first|subst ea_|(injection ea_ with ea_;subst ea_));subst ec_;clear en_));have GB10:=Aside0.mk gb10;have GG10:=Aside0.mk HG10;clear gb10 gl10 HG10;obtain ⟨ce10,hcl10,hM10,hcc10,hfr10⟩:=Kd.R_elem HO_3.out z77 (x4_1:Int) p10 q10;obtain rfl:=k77_openM hM10;have hx10_0:w11.cell? ⟨go10,(x4_1:Int).toNat*2,none⟩=some (.string ((rd_T77 x3_1 x4_1).f0)):=hcc10 0 _ rfl;have hx10_1:w11.cell? ⟨go10,(x4_1:Int).toNat*2+1,none⟩=some (.string ((rd_T77 x3_1 x4_1).f1)):=hcc10 1 _ rfl;have hf10_0:w11.frozen? ⟨go10,(x4_1:Int).toNat*2,none⟩=false:=hfr10 0;have hf10_1:w11.frozen? ⟨go10,(x4_1:Int).toNat*2+1,none⟩=false:=hfr10 1;clear hcl10 hcc10 hfr10 hM10;replace p10:=eq_true p10;replace q10:=eq_true q10;have HX12:=Aside0.mk (show Kd.R k77 77 w11 w.heap.size (fun _=>True) (.slice (some ⟨go10,0,none⟩) x3_1.length co10) x3_1 from (by (with_reducible repeat (first|apply Kd.R_alloc|apply Kd.R_drewN|apply Kd.R_drew));exact HO_3.out));obtain ⟨ce12,hcl12,hM12,hcc12,hfr12⟩:=Kd.R_elem HX12.out z77 (x4_1:Int) (of_decide_eq_true (by first|(with_reducible assumption)|assumption)) (by have h_:(x4_1:Int)<((x3_1.length:Int):Int):=of_decide_eq_true (by first|(with_reducible assumption)|assumption);first|exact h_|(have e_:=(Kd.R_reads' HO_3.out).1;omega)|simpa using h_);obtain rfl:=k77_openM hM12;have HP12:=Kd.R_seg HX12.out (x4_1:Int) (of_decide_eq_true (by first|(with_reducible assumption)|assumption)) (by have h_:(x4_1:Int)<((x3_1.length:Int):Int):=of_decide_eq_true (by first|(with_reducible assumption)|assumption);first|exact h_|(have e_:=(Kd.R_reads' HO_3.out).1;omega)|simpa using h_) (seg:=[.string t117,.string t118]) (j:=0) hcl12 hcc12 (show 2≤2 from by decide) (x':=(⟨t117,t118⟩:S77)) (k77_mkM _ _ _ (⟨t117,t118⟩:S77)) (fun _ hk=>hk);have hx12_0:=hcc12 0 _ rfl;(try simp only [show (k77).sz=2 from rfl,Nat.mul_one,Nat.add_zero] at hx12_0);have hf12_0:=hfr12 0;(try simp only [show (k77).sz=2 from rfl,Nat.mul_one,Nat.add_zero] at hf12_0);have hx12_1:=hcc12 1 _ rfl;(try simp only [show (k77).sz=2 from rfl,Nat.mul_one,Nat.add_zero] at hx12_1);have hf12_1:=hfr12 1;(try simp only [show (k77).sz=2 from rfl,Nat.mul_one,Nat.add_zero] at hf12_1);clear hcl12 hcc12 hfr12 hM12)|((with_reducible refine gate_store (t:=77) (p:=21) rfl ?_);refine store_event (t:=77) (p:=21) (v:=?vo_w13) (w1:=((w11.setCell ⟨go10,(x4_1:Int).toNat*2,none⟩ (.string t117)).setCell ⟨go10,(x4_1:Int).toNat*2+1,none⟩ (.string t118))) ?hg ?ho ?hn ?hr ?_;(case ho=>rfl);(case hg=>rfl);(case hn=>rfl);(case hr=>first|(go_simp;done)|(go_simp;rfl));intro w13 hw;have hg:w11.grownBy w13 (some go10):=(by rw [hw];exact HP12.2);have hp_:Kd.R k77 77 w13 w.heap.size (fun _=>True) (.slice (some ⟨go10,0,none⟩) x3_1.length co10) y119:=(by rw [hw,Ny119.out];exact HP12.1);clear HP12;have n0_:=Aside0.mk (hp_);have n1_:=Aside0.mk ((by rw [hw];exact below_set (below_set (HB.out) GB10.out) GB10.out:Below w.heap.size w w13));clear HO_3;clear HB;have HO_3:=n0_;have HB:=n1_;clear n0_ n1_;clear hg hw hp_))
        go_roundg k1
        case measure=>have:=HK1.out;omega
        case rel=>exact ⟨(y119),(wrap64 (x4_1+1)),(by first|rfl|(simp;done)|(simp [*];done)),H',⟨by have:=HK1.out;omega⟩,⟨by (with_reducible repeat (first|apply Kd.R_alloc|apply Kd.R_drewN|apply Kd.R_drew));exact HO_3.out⟩,⟨by repeat (first|(with_reducible first|exact HB.out|apply below_alloc|apply pw_below_drewN|apply below_drew1)|exact HB.out)⟩⟩
       ·rw [if_neg c9] at H
        exact absurd H (by simp)
      ·rw [if_neg c7] at H
       exact absurd H (by simp)
     ·rw [if_neg c6] at H
      have c6b0:decide (x4_1<(l0.length:Int))=false:=decide_eq_false c6
      clear c6
      obtain rfl:=Option.some.inj H
      go_wp2
      go_ret
      exact ⟨_,by first|rfl|(simp [errW_none,errW_some]<;>rfl)|(simp [*,errW_none,errW_some]<;>rfl),by (with_reducible repeat (first|apply Kd.R_alloc|apply Kd.R_drewN|apply Kd.R_drew));exact HO_3.out,by repeat (first|(with_reducible first|exact HB.out|apply below_alloc|apply pw_below_drewN|apply below_drew1)|exact HB.out)⟩
  ·rw [if_neg c3] at H
   exact absurd H (by simp)
 ·rw [if_neg c2] at H
  exact absurd H (by simp)
/-! ### laws_toNode: function 26 -/
def laws_toNode.f (k:Nat) (a0_0:Int) (a0_1:Int) (a0_2:ByteArray) (l0_3:List (S91)) (a0_4:ByteArray) (a0_5:Int):Option (Int×Int×ByteArray×(List (S77))×ByteArray×Int):=(laws_toAttrS.f k l0_3).bind fun t123=>(some (a0_0,a0_1,a0_2,t123,a0_4,a0_5))
theorem laws_toNode.mono:∀ a0 a1 a2 a3 a4 a5 k,LeO (laws_toNode.f k a0 a1 a2 a3 a4 a5) (laws_toNode.f (k+1) a0 a1 a2 a3 a4 a5):=by
 intro a0 a1 a2 a3 a4 a5 k
 unfold laws_toNode.f
 repeat' first
   |(with_reducible exact laws_toAttrS.mono _ _)
   |(with_reducible exact LeO.refl _)
   |(with_reducible exact LeO.none _)
   |(with_reducible refine LeO.ite ?_ ?_)
   |(with_reducible refine LeO.bind ?_ (fun _=>?_))
   |exact laws_toAttrS.mono _ _
   |exact LeO.none _
   |refine LeO.ite ?_ ?_
   |refine LeO.bind ?_ (fun _=>?_)
set_option maxHeartbeats 8000000 in
set_option maxRecDepth 100000 in
theorem laws_toNode.calls (k:Nat) (a0_0:Int) (a0_1:Int) (a0_2:ByteArray) (A0_3:Option Addr) (c0_3:Nat) (l0_3:List (S91)) (a0_4:ByteArray) (a0_5:Int) (r1:Int) (r2:Int) (r3:ByteArray) (r4:List (S77)) (r5:ByteArray) (r6:Int) (w:World) (hr0_3:Kd.C k91 w A0_3 l0_3.length l0_3) (hc0_3:l0_3.length≤c0_3) (h:laws_toNode.f k a0_0 a0_1 a0_2 l0_3 a0_4 a0_5=some (r1,r2,r3,r4,r5,r6)) :
  Calls Tryz.prog 26 #[.agg #[.int .i64 a0_0,.int .i64 a0_1,.string a0_2,.slice A0_3 l0_3.length c0_3,.string a0_4,.int .i64 a0_5]] w fun e w'=>∃ v3_:Value,e=.returned (.agg #[.int .i64 r1,.int .i64 r2,.string r3,v3_,.string r5,.int .i64 r6])∧Kd.R k77 77 w' w.heap.size (fun _=>True) v3_ r4∧Below w.heap.size w w':=by
 have hu63:=Tryz.underlying63
 have hu57:=Tryz.underlying57
 have HR0_3:=Aside0.mk hr0_3
 have HC0_3:=Aside0.mk hc0_3
 clear hr0_3 hc0_3
 have HB:=Aside0.mk (Below.refl w.heap.size w)
 have H:((laws_toAttrS.f k l0_3).bind fun t123=>(some (a0_0,a0_1,a0_2,t123,a0_4,a0_5)))=some (r1,r2,r3,r4,r5,r6):=h
 clear h
 replace H:=Option.bind_eq_some_iff.mp H
 obtain ⟨t123,A20,H⟩:=H
 replace H:(some (a0_0,a0_1,a0_2,t123,a0_4,a0_5))=some (r1,r2,r3,r4,r5,r6):=H
 have A2:=Aside0.mk A20
 clear A20
 simp only [Option.some.injEq,Prod.mk.injEq] at H
 obtain ⟨rfl,rfl,rfl,rfl,rfl,rfl⟩:=H
 go_enter Tryz.func26,Tryz.ntmps26
 go_wp2_with (first|((with_reducible refine gate_dst (N:=1) rfl ?_);refine box_event ?hg (N:=1) ?hd (cs:=#[.int .i64 a0_0,.int .i64 a0_1,.string a0_2,.slice A0_3 l0_3.length c0_3,.string a0_4,.int .i64 a0_5]) (t:=63) ?hr ?_;(case hd=>rfl);(case hg=>rfl);(case hr=>first|(go_simp;done)|(go_simp;rfl));intro gb120 hg w3 hbox hb;have n0_:=Aside0.mk (below_step (by repeat (first|(with_reducible first|exact HB.out|apply below_alloc|apply pw_below_drewN|apply below_drew1)|exact HB.out)) hb);have n1_:=Aside0.mk (hbox);have n2_:=Aside0.mk ((by rw [hg];exact (below_size (by repeat (first|(with_reducible first|exact HB.out|apply below_alloc|apply pw_below_drewN|apply below_drew1)|exact HB.out))):w.heap.size≤gb120));have n3_:=Aside0.mk ((by rw [hg];exact (below_size (by repeat (first|(with_reducible first|exact HB.out|apply below_alloc|apply pw_below_drewN|apply below_drew1)|exact HB.out))):w.heap.size≤gb120));clear HB;have HB:=n0_;have BK120:=n1_;have GW120:=n2_;have GE120:=n3_;clear n0_ n1_ n2_ n3_;clear hb hbox hg)|((with_reducible refine gate_dst (N:=2) rfl ?_);refine box_event ?hg (N:=2) ?hd (cs:=#[.int .i64 0,.int .i64 0,.string (⟨#[]⟩:ByteArray),.slice none 0 0,.string (⟨#[]⟩:ByteArray),.int .i64 0]) (t:=57) ?hr ?_;(case hd=>rfl);(case hg=>rfl);(case hr=>first|(go_simp;done)|(go_simp;rfl));intro gb121 hg w4 hbox hb;have n0_:=Aside0.mk (blk_below (g:=gb120) (o:=.cells #[.int .i64 a0_0,.int .i64 a0_1,.string a0_2,.slice A0_3 l0_3.length c0_3,.string a0_4,.int .i64 a0_5] 63 (0,0)) (by (with_reducible repeat (first|refine blk_drewN ?_ _|refine blk_drew ?_|refine blk_alloc ?_ _));exact BK120.out) hb);have n1_:=Aside0.mk (below_step (by repeat (first|(with_reducible first|exact HB.out|apply below_alloc|apply pw_below_drewN|apply below_drew1|refine below_set ?_ GE120.out)|exact HB.out)) hb);have n2_:=Aside0.mk (hbox);have n3_:=Aside0.mk ((by rw [hg];exact (below_size (by repeat (first|(with_reducible first|exact HB.out|apply below_alloc|apply pw_below_drewN|apply below_drew1|refine below_set ?_ GE120.out)|exact HB.out))):w.heap.size≤gb121));have n4_:=Aside0.mk ((by rw [hg];exact (below_size (by repeat (first|(with_reducible first|exact HB.out|apply below_alloc|apply pw_below_drewN|apply below_drew1|refine below_set ?_ GE120.out)|exact HB.out))):w.heap.size≤gb121));have n5_:=Aside0.mk ((by rw [hg];exact Nat.ne_of_lt (blk_lt (g:=gb120) (o:=.cells #[.int .i64 a0_0,.int .i64 a0_1,.string a0_2,.slice A0_3 l0_3.length c0_3,.string a0_4,.int .i64 a0_5] 63 (0,0)) (by (with_reducible repeat (first|refine blk_drewN ?_ _|refine blk_drew ?_|refine blk_alloc ?_ _));exact BK120.out)):gb120≠gb121));have n6_:=Aside0.mk ((by rw [hg];exact Nat.ne_of_gt (blk_lt (g:=gb120) (o:=.cells #[.int .i64 a0_0,.int .i64 a0_1,.string a0_2,.slice A0_3 l0_3.length c0_3,.string a0_4,.int .i64 a0_5] 63 (0,0)) (by (with_reducible repeat (first|refine blk_drewN ?_ _|refine blk_drew ?_|refine blk_alloc ?_ _));exact BK120.out)):gb121≠gb120));clear BK120;clear HB;have BK120:=n0_;have HB:=n1_;have BK121:=n2_;have GW121:=n3_;have GE121:=n4_;have NB120_121:=n5_;have NB121_120:=n6_;clear n0_ n1_ n2_ n3_ n4_ n5_ n6_;clear hb hbox hg)|((with_reducible refine gate_dst (N:=3) rfl ?_);refine box_event ?hg (N:=3) ?hd (cs:=#[.int .i64 0,.int .i64 0,.string (⟨#[]⟩:ByteArray),.slice none 0 0,.string (⟨#[]⟩:ByteArray),.int .i64 0]) (t:=57) ?hr ?_;(case hd=>rfl);(case hg=>rfl);(case hr=>first|(go_simp;done)|(go_simp;rfl));intro gb122 hg w5 hbox hb;have n0_:=Aside0.mk (blk_below (g:=gb120) (o:=.cells #[.int .i64 a0_0,.int .i64 a0_1,.string a0_2,.slice A0_3 l0_3.length c0_3,.string a0_4,.int .i64 a0_5] 63 (0,0)) (by (with_reducible repeat (first|refine blk_drewN ?_ _|refine blk_drew ?_|refine blk_alloc ?_ _));exact BK120.out) hb);have n1_:=Aside0.mk (blk_below (g:=gb121) (o:=.cells #[.int .i64 0,.int .i64 0,.string (⟨#[]⟩:ByteArray),.slice none 0 0,.string (⟨#[]⟩:ByteArray),.int .i64 0] 57 (0,0)) (by (with_reducible repeat (first|refine blk_drewN ?_ _|refine blk_drew ?_|refine blk_alloc ?_ _));exact BK121.out) hb);have n2_:=Aside0.mk (below_step (by repeat (first|(with_reducible first|exact HB.out|apply below_alloc|apply pw_below_drewN|apply below_drew1|refine below_set ?_ GE120.out|refine below_set ?_ GE121.out)|exact HB.out)) hb);have n3_:=Aside0.mk (hbox);have n4_:=Aside0.mk ((by rw [hg];exact (below_size (by repeat (first|(with_reducible first|exact HB.out|apply below_alloc|apply pw_below_drewN|apply below_drew1|refine below_set ?_ GE120.out|refine below_set ?_ GE121.out)|exact HB.out))):w.heap.size≤gb122));have n5_:=Aside0.mk ((by rw [hg];exact (below_size (by repeat (first|(with_reducible first|exact HB.out|apply below_alloc|apply pw_below_drewN|apply below_drew1|refine below_set ?_ GE120.out|refine below_set ?_ GE121.out)|exact HB.out))):w.heap.size≤gb122));have n6_:=Aside0.mk ((by rw [hg];exact Nat.ne_of_lt (blk_lt (g:=gb120) (o:=.cells #[.int .i64 a0_0,.int .i64 a0_1,.string a0_2,.slice A0_3 l0_3.length c0_3,.string a0_4,.int .i64 a0_5] 63 (0,0)) (by (with_reducible repeat (first|refine blk_drewN ?_ _|refine blk_drew ?_|refine blk_alloc ?_ _));exact BK120.out)):gb120≠gb122));have n7_:=Aside0.mk ((by rw [hg];exact Nat.ne_of_gt (blk_lt (g:=gb120) (o:=.cells #[.int .i64 a0_0,.int .i64 a0_1,.string a0_2,.slice A0_3 l0_3.length c0_3,.string a0_4,.int .i64 a0_5] 63 (0,0)) (by (with_reducible repeat (first|refine blk_drewN ?_ _|refine blk_drew ?_|refine blk_alloc ?_ _));exact BK120.out)):gb122≠gb120));have n8_:=Aside0.mk ((by rw [hg];exact Nat.ne_of_lt (blk_lt (g:=gb121) (o:=.cells #[.int .i64 0,.int .i64 0,.string (⟨#[]⟩:ByteArray),.slice none 0 0,.string (⟨#[]⟩:ByteArray),.int .i64 0] 57 (0,0)) (by (with_reducible repeat (first|refine blk_drewN ?_ _|refine blk_drew ?_|refine blk_alloc ?_ _));exact BK121.out)):gb121≠gb122));have n9_:=Aside0.mk ((by rw [hg];exact Nat.ne_of_gt (blk_lt (g:=gb121) (o:=.cells #[.int .i64 0,.int .i64 0,.string (⟨#[]⟩:ByteArray),.slice none 0 0,.string (⟨#[]⟩:ByteArray),.int .i64 0] 57 (0,0)) (by (with_reducible repeat (first|refine blk_drewN ?_ _|refine blk_drew ?_|refine blk_alloc ?_ _));exact BK121.out)):gb122≠gb121));clear BK120;clear BK121;clear HB;have BK120:=n0_;have BK121:=n1_;have HB:=n2_;have BK122:=n3_;have GW122:=n4_;have GE122:=n5_;have NB120_122:=n6_;have NB122_120:=n7_;have NB121_122:=n8_;have NB122_121:=n9_;clear n0_ n1_ n2_ n3_ n4_ n5_ n6_ n7_ n8_ n9_;clear hb hbox hg;have hnb6:=NB120_121.out;have hnc6:=NB121_120.out;have hnb7:=NB120_122.out;have hnc7:=NB122_120.out;have hcz8_0:w5.cell? ⟨gb120,0,none⟩=some (.int .i64 a0_0):=(blk_cell BK120.out 0).trans rfl;have hcz8_1:w5.cell? ⟨gb120,1,none⟩=some (.int .i64 a0_1):=(blk_cell BK120.out 1).trans rfl;have hcz8_2:w5.cell? ⟨gb120,2,none⟩=some (.string a0_2):=(blk_cell BK120.out 2).trans rfl;have hcz8_3:w5.cell? ⟨gb120,3,none⟩=some (.slice A0_3 l0_3.length c0_3):=(blk_cell BK120.out 3).trans rfl;have hcz8_4:w5.cell? ⟨gb120,4,none⟩=some (.string a0_4):=(blk_cell BK120.out 4).trans rfl;have hcz8_5:w5.cell? ⟨gb120,5,none⟩=some (.int .i64 a0_5):=(blk_cell BK120.out 5).trans rfl;have hfz8_0:=blk_frozen BK120.out 0;have hfz8_1:=blk_frozen BK120.out 1;have hfz8_2:=blk_frozen BK120.out 2;have hfz8_3:=blk_frozen BK120.out 3;have hfz8_4:=blk_frozen BK120.out 4;have hfz8_5:=blk_frozen BK120.out 5;have hnb9:=NB122_121.out;have hnc9:=NB121_122.out;have hcz10_0:w5.cell? ⟨gb122,0,none⟩=some (.int .i64 0):=(blk_cell BK122.out 0).trans rfl;have hcz10_1:w5.cell? ⟨gb122,1,none⟩=some (.int .i64 0):=(blk_cell BK122.out 1).trans rfl;have hcz10_2:w5.cell? ⟨gb122,2,none⟩=some (.string (⟨#[]⟩:ByteArray)):=(blk_cell BK122.out 2).trans rfl;have hcz10_3:w5.cell? ⟨gb122,3,none⟩=some (.slice none 0 0):=(blk_cell BK122.out 3).trans rfl;have hcz10_4:w5.cell? ⟨gb122,4,none⟩=some (.string (⟨#[]⟩:ByteArray)):=(blk_cell BK122.out 4).trans rfl;have hcz10_5:w5.cell? ⟨gb122,5,none⟩=some (.int .i64 0):=(blk_cell BK122.out 5).trans rfl;have hfz10_0:=blk_frozen BK122.out 0;have hfz10_1:=blk_frozen BK122.out 1;have hfz10_2:=blk_frozen BK122.out 2;have hfz10_3:=blk_frozen BK122.out 3;have hfz10_4:=blk_frozen BK122.out 4;have hfz10_5:=blk_frozen BK122.out 5)|((with_reducible refine gate_callee (f:=37) rfl ?_);refine goesL_ (some 15) rfl rfl Tryz.func37 (by kernel_rfl) rfl #[.slice A0_3 l0_3.length c0_3] rfl (by (try simp only [List.map_toArray,List.map_cons,List.map_nil]);first|done|rfl|(simp only [List.length_drop,List.length_take];rfl)) ?_;(with_reducible refine (laws_toAttrS.calls k _ _ l0_3 t123 _ ?side1 ?side2 A2.out).mono ?_);(case side1=>exact Kd.C_below HR0_3.out (by repeat (first|(with_reducible first|exact HB.out|apply below_alloc|apply pw_below_drewN|apply below_drew1|refine below_set ?_ GE120.out|refine below_set ?_ GE121.out|refine below_set ?_ GE122.out)|exact HB.out)));(case side2=>exact HC0_3.out);rintro e w11 ⟨v124,rfl,ho0,hb⟩;refine ⟨_,rfl,?_⟩;have n0_:=Aside0.mk (Kd.R_lower ho0 (below_size (by repeat (first|(with_reducible first|exact HB.out|apply below_alloc|apply pw_below_drewN|apply below_drew1|refine below_set ?_ GE120.out|refine below_set ?_ GE121.out|refine below_set ?_ GE122.out)|exact HB.out))));have n1_:=Aside0.mk (blk_below (g:=gb120) (o:=.cells #[.int .i64 a0_0,.int .i64 a0_1,.string a0_2,.slice A0_3 l0_3.length c0_3,.string a0_4,.int .i64 a0_5] 63 (0,0)) (by (with_reducible repeat (first|refine blk_drewN ?_ _|refine blk_drew ?_|refine blk_alloc ?_ _));refine blk_far ?_ NB120_122.out _;(with_reducible repeat (first|refine blk_drewN ?_ _|refine blk_drew ?_|refine blk_alloc ?_ _));refine blk_far ?_ NB120_122.out _;(with_reducible repeat (first|refine blk_drewN ?_ _|refine blk_drew ?_|refine blk_alloc ?_ _));refine blk_far ?_ NB120_122.out _;(with_reducible repeat (first|refine blk_drewN ?_ _|refine blk_drew ?_|refine blk_alloc ?_ _));exact BK120.out) hb);have n2_:=Aside0.mk (blk_below (g:=gb121) (o:=.cells #[.int .i64 0,.int .i64 0,.string (⟨#[]⟩:ByteArray),.slice none 0 0,.string (⟨#[]⟩:ByteArray),.int .i64 0] 57 (0,0)) (by (with_reducible repeat (first|refine blk_drewN ?_ _|refine blk_drew ?_|refine blk_alloc ?_ _));refine blk_far ?_ NB121_122.out _;(with_reducible repeat (first|refine blk_drewN ?_ _|refine blk_drew ?_|refine blk_alloc ?_ _));refine blk_far ?_ NB121_122.out _;(with_reducible repeat (first|refine blk_drewN ?_ _|refine blk_drew ?_|refine blk_alloc ?_ _));refine blk_far ?_ NB121_122.out _;(with_reducible repeat (first|refine blk_drewN ?_ _|refine blk_drew ?_|refine blk_alloc ?_ _));exact BK121.out) hb);have n3_:=Aside0.mk (blk_below (g:=gb122) (o:=.cells #[.int .i64 a0_0,.int .i64 a0_1,.string a0_2,.slice none 0 0,.string (⟨#[]⟩:ByteArray),.int .i64 0] 57 (0,0)) (by (with_reducible repeat (first|refine blk_drewN ?_ _|refine blk_drew ?_|refine blk_alloc ?_ _));refine blk_put (cs:=#[.int .i64 a0_0,.int .i64 a0_1,.string (⟨#[]⟩:ByteArray),.slice none 0 0,.string (⟨#[]⟩:ByteArray),.int .i64 0]) ?_ 2 _ rfl;(with_reducible repeat (first|refine blk_drewN ?_ _|refine blk_drew ?_|refine blk_alloc ?_ _));refine blk_put (cs:=#[.int .i64 a0_0,.int .i64 0,.string (⟨#[]⟩:ByteArray),.slice none 0 0,.string (⟨#[]⟩:ByteArray),.int .i64 0]) ?_ 1 _ rfl;(with_reducible repeat (first|refine blk_drewN ?_ _|refine blk_drew ?_|refine blk_alloc ?_ _));refine blk_put (cs:=#[.int .i64 0,.int .i64 0,.string (⟨#[]⟩:ByteArray),.slice none 0 0,.string (⟨#[]⟩:ByteArray),.int .i64 0]) ?_ 0 _ rfl;(with_reducible repeat (first|refine blk_drewN ?_ _|refine blk_drew ?_|refine blk_alloc ?_ _));exact BK122.out) hb);have n4_:=Aside0.mk (below_step (by repeat (first|(with_reducible first|exact HB.out|apply below_alloc|apply pw_below_drewN|apply below_drew1|refine below_set ?_ GE120.out|refine below_set ?_ GE121.out|refine below_set ?_ GE122.out)|exact HB.out)) hb);clear BK120;clear BK121;clear BK122;clear HB;have HO125:=n0_;have BK120:=n1_;have BK121:=n2_;have BK122:=n3_;have HB:=n4_;clear n0_ n1_ n2_ n3_ n4_;(try clear hb);(try clear hb2);(try clear hk);(try clear hi);(try clear ho0);obtain ⟨Ao12,co12,eo12⟩:=Kd.R_slice HO125.out;subst eo12;have hcz13_0:w11.cell? ⟨gb122,0,none⟩=some (.int .i64 a0_0):=(blk_cell BK122.out 0).trans rfl;have hcz13_1:w11.cell? ⟨gb122,1,none⟩=some (.int .i64 a0_1):=(blk_cell BK122.out 1).trans rfl;have hcz13_2:w11.cell? ⟨gb122,2,none⟩=some (.string a0_2):=(blk_cell BK122.out 2).trans rfl;have hcz13_3:w11.cell? ⟨gb122,3,none⟩=some (.slice none 0 0):=(blk_cell BK122.out 3).trans rfl;have hcz13_4:w11.cell? ⟨gb122,4,none⟩=some (.string (⟨#[]⟩:ByteArray)):=(blk_cell BK122.out 4).trans rfl;have hcz13_5:w11.cell? ⟨gb122,5,none⟩=some (.int .i64 0):=(blk_cell BK122.out 5).trans rfl;have hfz13_0:=blk_frozen BK122.out 0;have hfz13_1:=blk_frozen BK122.out 1;have hfz13_2:=blk_frozen BK122.out 2;have hfz13_3:=blk_frozen BK122.out 3;have hfz13_4:=blk_frozen BK122.out 4;have hfz13_5:=blk_frozen BK122.out 5;have hcz14_0:w11.cell? ⟨gb120,0,none⟩=some (.int .i64 a0_0):=(blk_cell BK120.out 0).trans rfl;have hcz14_1:w11.cell? ⟨gb120,1,none⟩=some (.int .i64 a0_1):=(blk_cell BK120.out 1).trans rfl;have hcz14_2:w11.cell? ⟨gb120,2,none⟩=some (.string a0_2):=(blk_cell BK120.out 2).trans rfl;have hcz14_3:w11.cell? ⟨gb120,3,none⟩=some (.slice A0_3 l0_3.length c0_3):=(blk_cell BK120.out 3).trans rfl;have hcz14_4:w11.cell? ⟨gb120,4,none⟩=some (.string a0_4):=(blk_cell BK120.out 4).trans rfl;have hcz14_5:w11.cell? ⟨gb120,5,none⟩=some (.int .i64 a0_5):=(blk_cell BK120.out 5).trans rfl;have hfz14_0:=blk_frozen BK120.out 0;have hfz14_1:=blk_frozen BK120.out 1;have hfz14_2:=blk_frozen BK120.out 2;have hfz14_3:=blk_frozen BK120.out 3;have hfz14_4:=blk_frozen BK120.out 4;have hfz14_5:=blk_frozen BK120.out 5;have hcz15_0:w11.cell? ⟨gb121,0,none⟩=some (.int .i64 0):=(blk_cell BK121.out 0).trans rfl;have hcz15_1:w11.cell? ⟨gb121,1,none⟩=some (.int .i64 0):=(blk_cell BK121.out 1).trans rfl;have hcz15_2:w11.cell? ⟨gb121,2,none⟩=some (.string (⟨#[]⟩:ByteArray)):=(blk_cell BK121.out 2).trans rfl;have hcz15_3:w11.cell? ⟨gb121,3,none⟩=some (.slice none 0 0):=(blk_cell BK121.out 3).trans rfl;have hcz15_4:w11.cell? ⟨gb121,4,none⟩=some (.string (⟨#[]⟩:ByteArray)):=(blk_cell BK121.out 4).trans rfl;have hcz15_5:w11.cell? ⟨gb121,5,none⟩=some (.int .i64 0):=(blk_cell BK121.out 5).trans rfl;have hfz15_0:=blk_frozen BK121.out 0;have hfz15_1:=blk_frozen BK121.out 1;have hfz15_2:=blk_frozen BK121.out 2;have hfz15_3:=blk_frozen BK121.out 3;have hfz15_4:=blk_frozen BK121.out 4;have hfz15_5:=blk_frozen BK121.out 5))
 refine bodyPost_ret (results_cell_row rfl _ _ gb121 57 #[.int .i64 a0_0,.int .i64 a0_1,.string a0_2,.slice Ao12 t123.length co12,.string a0_4,.int .i64 a0_5] (0,0) _ rfl (by (with_reducible repeat (first|refine blk_drewN ?_ _|refine blk_drew ?_|refine blk_alloc ?_ _));refine blk_put (cs:=#[.int .i64 a0_0,.int .i64 a0_1,.string a0_2,.slice Ao12 t123.length co12,.string a0_4,.int .i64 0]) ?_ 5 _ rfl;(with_reducible repeat (first|refine blk_drewN ?_ _|refine blk_drew ?_|refine blk_alloc ?_ _));refine blk_put (cs:=#[.int .i64 a0_0,.int .i64 a0_1,.string a0_2,.slice Ao12 t123.length co12,.string (⟨#[]⟩:ByteArray),.int .i64 0]) ?_ 4 _ rfl;(with_reducible repeat (first|refine blk_drewN ?_ _|refine blk_drew ?_|refine blk_alloc ?_ _));refine blk_put (cs:=#[.int .i64 a0_0,.int .i64 a0_1,.string a0_2,.slice none 0 0,.string (⟨#[]⟩:ByteArray),.int .i64 0]) ?_ 3 _ rfl;(with_reducible repeat (first|refine blk_drewN ?_ _|refine blk_drew ?_|refine blk_alloc ?_ _));refine blk_put (cs:=#[.int .i64 a0_0,.int .i64 a0_1,.string (⟨#[]⟩:ByteArray),.slice none 0 0,.string (⟨#[]⟩:ByteArray),.int .i64 0]) ?_ 2 _ rfl;(with_reducible repeat (first|refine blk_drewN ?_ _|refine blk_drew ?_|refine blk_alloc ?_ _));refine blk_put (cs:=#[.int .i64 a0_0,.int .i64 0,.string (⟨#[]⟩:ByteArray),.slice none 0 0,.string (⟨#[]⟩:ByteArray),.int .i64 0]) ?_ 1 _ rfl;(with_reducible repeat (first|refine blk_drewN ?_ _|refine blk_drew ?_|refine blk_alloc ?_ _));refine blk_put (cs:=#[.int .i64 0,.int .i64 0,.string (⟨#[]⟩:ByteArray),.slice none 0 0,.string (⟨#[]⟩:ByteArray),.int .i64 0]) ?_ 0 _ rfl;(with_reducible repeat (first|refine blk_drewN ?_ _|refine blk_drew ?_|refine blk_alloc ?_ _));refine blk_far ?_ NB121_122.out _;(with_reducible repeat (first|refine blk_drewN ?_ _|refine blk_drew ?_|refine blk_alloc ?_ _));refine blk_far ?_ NB121_122.out _;(with_reducible repeat (first|refine blk_drewN ?_ _|refine blk_drew ?_|refine blk_alloc ?_ _));refine blk_far ?_ NB121_122.out _;(with_reducible repeat (first|refine blk_drewN ?_ _|refine blk_drew ?_|refine blk_alloc ?_ _));exact BK121.out) Tryz.underlying57 rfl (by kernel_rfl)) rfl ?_
 exact ⟨_,by first|rfl|(simp [errW_none,errW_some]<;>rfl)|(simp [*,errW_none,errW_some]<;>rfl),by (with_reducible repeat (first|apply Kd.R_alloc|apply Kd.R_drewN|apply Kd.R_drew));exact Kd.R_mono (Kd.R_far (p:=⟨gb121,5,none⟩) (Kd.R_far (p:=⟨gb121,4,none⟩) (Kd.R_far (p:=⟨gb121,3,none⟩) (Kd.R_far (p:=⟨gb121,2,none⟩) (Kd.R_far (p:=⟨gb121,1,none⟩) (Kd.R_far (p:=⟨gb121,0,none⟩) (Kd.R_far (p:=⟨gb122,5,none⟩) (Kd.R_far (p:=⟨gb122,4,none⟩) (Kd.R_far (p:=⟨gb122,3,none⟩) (Kd.R_types (Kd.R_types HO125.out BK122.out (by decide)) BK121.out (by decide)) (fun _ hk=>hk.1.2) (.slice Ao12 t123.length co12)) (fun _ hk=>hk.1.2) (.string a0_4)) (fun _ hk=>hk.1.2) (.int .i64 a0_5)) (fun _ hk=>hk.2) (.int .i64 a0_0)) (fun _ hk=>hk.2) (.int .i64 a0_1)) (fun _ hk=>hk.2) (.string a0_2)) (fun _ hk=>hk.2) (.slice Ao12 t123.length co12)) (fun _ hk=>hk.2) (.string a0_4)) (fun _ hk=>hk.2) (.int .i64 a0_5)) (fun _ hk=>trivial),by repeat (first|(with_reducible first|exact HB.out|apply below_alloc|apply pw_below_drewN|apply below_drew1|refine below_set ?_ GE120.out|refine below_set ?_ GE121.out|refine below_set ?_ GE122.out)|exact HB.out)⟩
/-! ### laws_toNodeS: function 15 -/
def laws_toNodeS.l0:Nat→List (S63)→List (S57)→Int→Option ((List (S57)))
 |0,_,_,_=>none
 |k+1,x0,x3,x4=>if x4<(x0.length:Int) then (if 0≤x4 then ((laws_toNode.f k ((rd_T63 x0 x4).f0) ((rd_T63 x0 x4).f1) ((rd_T63 x0 x4).f2) ((rd_T63 x0 x4).f3) ((rd_T63 x0 x4).f4) ((rd_T63 x0 x4).f5)).bind fun bt130=>(if x4<(x3.length:Int) then (laws_toNodeS.l0 k x0 (x3.set (x4:Int).toNat (⟨bt130.1,bt130.2.1,bt130.2.2.1,bt130.2.2.2.1,bt130.2.2.2.2.1,bt130.2.2.2.2.2⟩:S57)) (wrap64 (x4+1))) else (none))) else (none)) else (some x3)
def laws_toNodeS.f (k:Nat) (l0:List (S63)):Option ((List (S57))):=if 0≤(l0.length:Int) then (if ((l0.length:Int):Int).toNat≤3518437208883 then (laws_toNodeS.l0 k l0 (List.replicate ((l0.length:Int):Int).toNat z57) 0) else (none)) else (none)
theorem laws_toNodeS.mono_l:∀ k,(∀ y0 y1 y2,LeO (laws_toNodeS.l0 k y0 y1 y2) (laws_toNodeS.l0 (k+1) y0 y1 y2))
 |0=>fun _ _ _ r h=>by simp [laws_toNodeS.l0] at h
 |k+1=>by
  have ih0:=laws_toNodeS.mono_l k
  ·intro y0 y1 y2
   unfold laws_toNodeS.l0
   repeat' first
   |(with_reducible exact ih0 _ _ _)
   |(with_reducible exact laws_toNode.mono _ _ _ _ _ _ _)
   |(with_reducible exact LeO.refl _)
   |(with_reducible exact LeO.none _)
   |(with_reducible refine LeO.ite ?_ ?_)
   |(with_reducible refine LeO.bind ?_ (fun _=>?_))
   |exact ih0 _ _ _
   |exact laws_toNode.mono _ _ _ _ _ _ _
   |exact LeO.none _
   |refine LeO.ite ?_ ?_
   |refine LeO.bind ?_ (fun _=>?_)
theorem laws_toNodeS.mono:∀ a0 k,LeO (laws_toNodeS.f k a0) (laws_toNodeS.f (k+1) a0):=by
 intro a0 k
 have ih0:=laws_toNodeS.mono_l k
 unfold laws_toNodeS.f
 repeat' first
   |(with_reducible exact ih0 _ _ _)
   |(with_reducible exact laws_toNode.mono _ _ _ _ _ _ _)
   |(with_reducible exact LeO.refl _)
   |(with_reducible exact LeO.none _)
   |(with_reducible refine LeO.ite ?_ ?_)
   |(with_reducible refine LeO.bind ?_ (fun _=>?_))
   |exact ih0 _ _ _
   |exact laws_toNode.mono _ _ _ _ _ _ _
   |exact LeO.none _
   |refine LeO.ite ?_ ?_
   |refine LeO.bind ?_ (fun _=>?_)
set_option maxHeartbeats 8000000 in
set_option maxRecDepth 100000 in
theorem laws_toNodeS.calls (k:Nat) (A0:Option Addr) (c0:Nat) (l0:List (S63)) (r:List (S57)) (w:World) (hr0:Kd.C k63 w A0 l0.length l0) (hc0:l0.length≤c0) (h:laws_toNodeS.f k l0=some r) :
  Calls Tryz.prog 15 #[.slice A0 l0.length c0] w fun e w'=>∃ v0_:Value,e=.returned (v0_)∧Kd.S k57 57 w' w.heap.size (fun _=>True) v0_ r∧Below w.heap.size w w':=by
 have hu63:=Tryz.underlying63
 have hu57:=Tryz.underlying57
 have HR0:=Aside0.mk hr0
 have HC0:=Aside0.mk hc0
 clear hr0 hc0
 have HB:=Aside0.mk (Below.refl w.heap.size w)
 have H:(if 0≤(l0.length:Int) then (if ((l0.length:Int):Int).toNat≤3518437208883 then (laws_toNodeS.l0 k l0 (List.replicate ((l0.length:Int):Int).toNat z57) 0) else (none)) else (none))=some r:=h
 clear h
 by_cases c2:0≤(l0.length:Int)
 ·rw [if_pos c2] at H
  have c2b0:=eq_true c2
  have c2b1:decide (0≤(l0.length:Int))=true:=decide_eq_true c2
  clear c2
  by_cases c3:((l0.length:Int):Int).toNat≤3518437208883
  ·rw [if_pos c3] at H
   have c3b0:=eq_true c3
   have c3b1:decide (((l0.length:Int):Int).toNat≤3518437208883)=true:=decide_eq_true c3
   clear c3
   obtain ⟨y126,hy126⟩:∃ y_:List (S57),y_=(List.replicate ((l0.length:Int):Int).toNat z57):=⟨_,rfl⟩
   replace H:(laws_toNodeS.l0 k l0 y126 0)=some r:=by first|(rw [hy126];with_reducible exact H)|(have H2_:=(Option.bind_some _ _).symm.trans H;rw [hy126];with_reducible exact H2_)|(have H2_:=(Option.bind_some _ _).symm.trans H;with_reducible exact H2_)|with_reducible exact H|(rw [hy126];exact H)|exact H
   have Ny126:=Aside0.mk hy126
   clear hy126
   have H':=Aside0.mk H
   clear H
   go_enter Tryz.func15,Tryz.ntmps15
   go_wp2_with (first|((with_reducible refine gate_dst (N:=7) rfl ?_);refine Kd.S_make k57 _ 57 rfl (N:=7) rfl 27 _ _ rfl (l0.length:Int) rfl rfl Tryz.underlying27 (.agg #[(.int .i64 0),(.int .i64 0),(.string ⟨#[]⟩),(.slice none 0 0),(.string ⟨#[]⟩),(.int .i64 0)]) 80 info57 rfl (by decide) (by omega) z57 (ok:=fun _=>True) (okp:=fun _=>True) (k57_mkM _ _ _ z57 (Kd.R_nil _ _ _ _ _)) (fun _ hk=>hk) trivial (of_decide_eq_true (by first|(with_reducible assumption)|assumption)) (Nat.le_trans (Nat.mul_le_mul_right _ (of_decide_eq_true (by first|(with_reducible assumption)|assumption):(l0.length:Int).toNat≤3518437208883)) (by omega)) (Below.refl _ _) (Nat.le_refl _) ?_;intro v127 w4 ho5 hb hg_ hnew_;clear hg_ hnew_;(first|rw [← Ny126.out] at ho5|(simp only [Int.reduceToNat] at ho5;rw [← Ny126.out] at ho5));have n0_:=Aside0.mk (Kd.S_lower ho5 (below_size (by repeat (first|(with_reducible first|exact HB.out|apply below_alloc|apply pw_below_drewN|apply below_drew1)|exact HB.out))));have n1_:=Aside0.mk (below_step (by repeat (first|(with_reducible first|exact HB.out|apply below_alloc|apply pw_below_drewN|apply below_drew1)|exact HB.out)) hb);clear HB;have HO128:=n0_;have HB:=n1_;clear n0_ n1_;clear hb ho5))
   go_loopg [4] k (fun kq v4 w'=>∃ (x3_1:List (S57)) (x4_1:Int),v4=.int .i64 x4_1∧Aside0 (laws_toNodeS.l0 kq l0 x3_1 x4_1=some r)∧Aside0 (kq≤k)∧Aside0 (Kd.S k57 57 w' w.heap.size (fun _=>True) v127 x3_1)∧Aside0 (Below w.heap.size w w'))
   case atStart=>exact ⟨(y126),(0),(by first|rfl|(simp;done)|(simp [*];done)),H',⟨Nat.le_refl _⟩,⟨by (with_reducible repeat (first|apply Kd.S_alloc|apply Kd.S_drewN|apply Kd.S_drew));exact HO128.out⟩,⟨by repeat (first|(with_reducible first|exact HB.out|apply below_alloc|apply pw_below_drewN|apply below_drew1)|exact HB.out)⟩⟩
   case round=>
    clear H'
    try clear c1
    try clear c2
    try clear c2b0
    try clear c2b1
    try clear p2
    try clear c3
    try clear c3b0
    try clear c3b1
    obtain ⟨x3_1,x4_1,rfl,HA,HK1,HO_3,HB⟩:=hrel
    cases gk with
    |zero=>exact absurd HA.out (by simp [laws_toNodeS.l0])
    |succ k1=>
     have H:=HA.out
     clear HA
     simp only [laws_toNodeS.l0] at H
     by_cases c6:x4_1<(l0.length:Int)
     ·rw [if_pos c6] at H
      have c6b0:decide (x4_1<(l0.length:Int))=true:=decide_eq_true c6
      clear c6
      by_cases c7:0≤x4_1
      ·rw [if_pos c7] at H
       have c7b0:decide (0≤x4_1)=true:=decide_eq_true c7
       clear c7
       replace H:=Option.bind_eq_some_iff.mp H
       obtain ⟨⟨t130,t131,t132,t133,t136,t137⟩,A80,H⟩:=H
       replace H:(if x4_1<(x3_1.length:Int) then (laws_toNodeS.l0 k1 l0 (x3_1.set (x4_1:Int).toNat (⟨t130,t131,t132,t133,t136,t137⟩:S57)) (wrap64 (x4_1+1))) else (none))=some r:=H
       have A8:=Aside0.mk A80
       clear A80
       by_cases c9:x4_1<(x3_1.length:Int)
       ·rw [if_pos c9] at H
        have c9b0:decide (x4_1<(x3_1.length:Int))=true:=decide_eq_true c9
        clear c9
        obtain ⟨y138,hy138⟩:∃ y_:List (S57),y_=(x3_1.set (x4_1:Int).toNat (⟨t130,t131,t132,t133,t136,t137⟩:S57)):=⟨_,rfl⟩
        replace H:(laws_toNodeS.l0 k1 l0 y138 (wrap64 (x4_1+1)))=some r:=by first|(rw [hy138];with_reducible exact H)|(have H2_:=(Option.bind_some _ _).symm.trans H;rw [hy138];with_reducible exact H2_)|(have H2_:=(Option.bind_some _ _).symm.trans H;with_reducible exact H2_)|with_reducible exact H|(rw [hy138];exact H)|exact H
        have Ny138:=Aside0.mk hy138
        clear hy138
        have H':=Aside0.mk H
        clear H
        have p129:0≤(x4_1:Int):=of_decide_eq_true (by first|(with_reducible assumption)|assumption)
        have q129:x4_1<(l0.length:Int):=of_decide_eq_true (by first|(with_reducible assumption)|assumption)
        obtain ⟨ad129,A129_3,c129_3,e129,hx129_0,hx129_1,hx129_2,hx129_3,hx129_4,hx129_5,hl129_3,hi129_3⟩:=at_T63 HR0.out x4_1 p129 q129
        cases e129
        replace hx129_0:=(HB.out.cell (World.block_lt_of_cell? w _ hx129_0)).trans hx129_0
        replace hx129_1:=(HB.out.cell (World.block_lt_of_cell? w _ hx129_1)).trans hx129_1
        replace hx129_2:=(HB.out.cell (World.block_lt_of_cell? w _ hx129_2)).trans hx129_2
        replace hx129_3:=(HB.out.cell (World.block_lt_of_cell? w _ hx129_3)).trans hx129_3
        replace hx129_4:=(HB.out.cell (World.block_lt_of_cell? w _ hx129_4)).trans hx129_4
        replace hx129_5:=(HB.out.cell (World.block_lt_of_cell? w _ hx129_5)).trans hx129_5
        have HR129_3:=Aside0.mk hi129_3
        have HC129_3:=Aside0.mk hl129_3
        clear hi129_3 hl129_3
        replace p129:=eq_true p129
        replace q129:=eq_true q129
        go_wp2_with (first|((with_reducible refine gate_callee (f:=26) rfl ?_);refine goesL_ (some 20) rfl rfl Tryz.func26 (by kernel_rfl) rfl #[.agg #[.int .i64 ((rd_T63 l0 x4_1).f0),.int .i64 ((rd_T63 l0 x4_1).f1),.string ((rd_T63 l0 x4_1).f2),.slice A129_3 ((rd_T63 l0 x4_1).f3).length c129_3,.string ((rd_T63 l0 x4_1).f4),.int .i64 ((rd_T63 l0 x4_1).f5)]] rfl (by (try simp only [List.map_toArray,List.map_cons,List.map_nil]);first|done|rfl|(simp only [List.length_drop,List.length_take];rfl)) ?_;(with_reducible refine (laws_toNode.calls k1 ((rd_T63 l0 x4_1).f0) ((rd_T63 l0 x4_1).f1) ((rd_T63 l0 x4_1).f2) _ _ ((rd_T63 l0 x4_1).f3) ((rd_T63 l0 x4_1).f4) ((rd_T63 l0 x4_1).f5) t130 t131 t132 t133 t136 t137 _ ?side1 ?side2 A8.out).mono ?_);(case side1=>repeat (first|exact (Kd.C_below HR129_3.out HB.out)|(with_reducible refine Kd.C_alloc ?_ _)|(with_reducible refine Kd.C_drewN ?_ _)|(with_reducible refine Kd.C_drew ?_)));(case side2=>exact HC129_3.out);rintro e w11 ⟨v134,rfl,ho0,hb⟩;refine ⟨_,rfl,?_⟩;have n0_:=Aside0.mk (Kd.S_elder' (by (with_reducible repeat (first|apply Kd.S_alloc|apply Kd.S_drewN|apply Kd.S_drew));exact HO_3.out) (Kd.R_base ho0) hb);have n1_:=Aside0.mk (Kd.R_lower ho0 (below_size (by repeat (first|(with_reducible first|exact HB.out|apply below_alloc|apply pw_below_drewN|apply below_drew1)|exact HB.out))));have n2_:=Aside0.mk (below_step (by repeat (first|(with_reducible first|exact HB.out|apply below_alloc|apply pw_below_drewN|apply below_drew1)|exact HB.out)) hb);clear HO_3;clear HB;have HO_3:=n0_;have HO135:=n1_;have HB:=n2_;clear n0_ n1_ n2_;(try clear hb);(try clear hb2);(try clear hk);(try clear hi);(try clear ho0);have p10:0≤(x4_1:Int):=of_decide_eq_true (by first|(with_reducible assumption)|assumption);have q10:(x4_1:Int)<((x3_1.length:Int):Int):=of_decide_eq_true (by first|(with_reducible assumption)|assumption);obtain ⟨go10,co10,eo10,gb10,gl10,cl10,HG10⟩:=Kd.S_form HO_3.out (by omega);(first|cases eo10|(injection eo10 with ea_ en_ ec_;(first|subst ea_|(injection ea_ with ea_;subst ea_));subst ec_;clear en_));have GB10:=Aside0.mk gb10;have GG10:=Aside0.mk HG10;clear gb10 gl10 HG10;obtain ⟨_,ce10,hcl10,hM10,hcc10,hfr10,_,_⟩:=Kd.S_elem HO_3.out z57 (x4_1:Int) p10 q10;obtain ⟨ve10_3,rfl,ge10_3⟩:=k57_openM hM10;have hx10_0:w11.cell? ⟨go10,(x4_1:Int).toNat*6,none⟩=some (.int .i64 ((rd_T57 x3_1 x4_1).f0)):=hcc10 0 _ rfl;have hx10_1:w11.cell? ⟨go10,(x4_1:Int).toNat*6+1,none⟩=some (.int .i64 ((rd_T57 x3_1 x4_1).f1)):=hcc10 1 _ rfl;have hx10_2:w11.cell? ⟨go10,(x4_1:Int).toNat*6+2,none⟩=some (.string ((rd_T57 x3_1 x4_1).f2)):=hcc10 2 _ rfl;have hx10_3:w11.cell? ⟨go10,(x4_1:Int).toNat*6+3,none⟩=some (ve10_3):=hcc10 3 _ rfl;have hx10_4:w11.cell? ⟨go10,(x4_1:Int).toNat*6+4,none⟩=some (.string ((rd_T57 x3_1 x4_1).f4)):=hcc10 4 _ rfl;have hx10_5:w11.cell? ⟨go10,(x4_1:Int).toNat*6+5,none⟩=some (.int .i64 ((rd_T57 x3_1 x4_1).f5)):=hcc10 5 _ rfl;have hf10_0:w11.frozen? ⟨go10,(x4_1:Int).toNat*6,none⟩=false:=hfr10 0;have hf10_1:w11.frozen? ⟨go10,(x4_1:Int).toNat*6+1,none⟩=false:=hfr10 1;have hf10_2:w11.frozen? ⟨go10,(x4_1:Int).toNat*6+2,none⟩=false:=hfr10 2;have hf10_3:w11.frozen? ⟨go10,(x4_1:Int).toNat*6+3,none⟩=false:=hfr10 3;have hf10_4:w11.frozen? ⟨go10,(x4_1:Int).toNat*6+4,none⟩=false:=hfr10 4;have hf10_5:w11.frozen? ⟨go10,(x4_1:Int).toNat*6+5,none⟩=false:=hfr10 5;clear hcl10 hcc10 hfr10 hM10;replace p10:=eq_true p10;replace q10:=eq_true q10;have n_:=Aside0.mk (Kd.S_mono (ok':=(fun k_=>some k_≠(v134:Value).ownBlock)) HO_3.out (fun k_ hk=>hk.2));clear HO_3;have HO_3:=n_;clear n_;have HX12:=Aside0.mk (show Kd.S k57 57 w11 w.heap.size (fun k_=>((fun _=>True)) k_∧¬ ((fun k_=>some k_=(v134:Value).ownBlock)) k_) (.slice (some ⟨go10,0,none⟩) x3_1.length co10) x3_1 from (by (with_reducible repeat (first|apply Kd.S_alloc|apply Kd.S_drewN|apply Kd.S_drew));exact Kd.S_mono HO_3.out (fun k_ hk=>⟨trivial,fun e_=>hk e_⟩)));obtain ⟨oki12,ce12,hcl12,hM12,hcc12,hfr12,hoki12,hH12⟩:=Kd.S_elem HX12.out z57 (x4_1:Int) (of_decide_eq_true (by first|(with_reducible assumption)|assumption)) (by have h_:(x4_1:Int)<((x3_1.length:Int):Int):=of_decide_eq_true (by first|(with_reducible assumption)|assumption);first|exact h_|(have e_:=(Kd.S_reads' HO_3.out).1;omega)|simpa using h_);obtain ⟨ve12_3,rfl,ge12_3⟩:=k57_openM hM12;have HP12:=Kd.S_seg hH12 (of_decide_eq_true (by first|(with_reducible assumption)|assumption)) (by have h_:(x4_1:Int)<((x3_1.length:Int):Int):=of_decide_eq_true (by first|(with_reducible assumption)|assumption);first|exact h_|(have e_:=(Kd.S_reads' HO_3.out).1;omega)|simpa using h_) (seg:=[.int .i64 t130,.int .i64 t131,.string t132,v134,.string t136,.int .i64 t137]) (j:=0) (show 6≤6 from by decide) (x':=(⟨t130,t131,t132,t133,t136,t137⟩:S57)) (k57_mkM _ _ _ (⟨t130,t131,t132,t133,t136,t137⟩:S57) (Kd.R_mono (Kd.R_tight rfl (Kd.R_mono (ok':=fun k_=>((fun _=>True)) k_∧k_≠go10) (Kd.R_apart' (HO135.out) (Kd.S_typed HO_3.out) (by decide)) (fun k_ hk=>⟨trivial,fun e_=>(hk.2) (by rw [e_];rfl)⟩))) (fun _ h_=>Or.inr (h_)))) (fun _ hk=>hk) (fun k_ hk_=>((Kd.R_mono (ok':=fun k_=>((fun _=>True)) k_∧k_≠go10) (Kd.R_apart' (HO135.out) (Kd.S_typed HO_3.out) (by decide)) (fun k_ hk=>⟨trivial,fun e_=>(hk.2) (by rw [e_];rfl)⟩))).1 k_ hk_.symm);have hx12_0:=hcc12 0 _ rfl;(try simp only [show (k57).sz=6 from rfl,Nat.mul_one,Nat.add_zero] at hx12_0);have hf12_0:=hfr12 0;(try simp only [show (k57).sz=6 from rfl,Nat.mul_one,Nat.add_zero] at hf12_0);have hx12_1:=hcc12 1 _ rfl;(try simp only [show (k57).sz=6 from rfl,Nat.mul_one,Nat.add_zero] at hx12_1);have hf12_1:=hfr12 1;(try simp only [show (k57).sz=6 from rfl,Nat.mul_one,Nat.add_zero] at hf12_1);have hx12_2:=hcc12 2 _ rfl;(try simp only [show (k57).sz=6 from rfl,Nat.mul_one,Nat.add_zero] at hx12_2);have hf12_2:=hfr12 2;(try simp only [show (k57).sz=6 from rfl,Nat.mul_one,Nat.add_zero] at hf12_2);have hx12_3:=hcc12 3 _ rfl;(try simp only [show (k57).sz=6 from rfl,Nat.mul_one,Nat.add_zero] at hx12_3);have hf12_3:=hfr12 3;(try simp only [show (k57).sz=6 from rfl,Nat.mul_one,Nat.add_zero] at hf12_3);have hx12_4:=hcc12 4 _ rfl;(try simp only [show (k57).sz=6 from rfl,Nat.mul_one,Nat.add_zero] at hx12_4);have hf12_4:=hfr12 4;(try simp only [show (k57).sz=6 from rfl,Nat.mul_one,Nat.add_zero] at hf12_4);have hx12_5:=hcc12 5 _ rfl;(try simp only [show (k57).sz=6 from rfl,Nat.mul_one,Nat.add_zero] at hx12_5);have hf12_5:=hfr12 5;(try simp only [show (k57).sz=6 from rfl,Nat.mul_one,Nat.add_zero] at hf12_5);clear hcl12 hcc12 hfr12 hM12 hoki12 hH12)|((with_reducible refine gate_store (t:=57) (p:=21) rfl ?_);refine store_event (t:=57) (p:=21) (v:=?vo_w13) (w1:=((((((w11.setCell ⟨go10,(x4_1:Int).toNat*6,none⟩ (.int .i64 t130)).setCell ⟨go10,(x4_1:Int).toNat*6+1,none⟩ (.int .i64 t131)).setCell ⟨go10,(x4_1:Int).toNat*6+2,none⟩ (.string t132)).setCell ⟨go10,(x4_1:Int).toNat*6+3,none⟩ (v134)).setCell ⟨go10,(x4_1:Int).toNat*6+4,none⟩ (.string t136)).setCell ⟨go10,(x4_1:Int).toNat*6+5,none⟩ (.int .i64 t137))) ?hg ?ho ?hn ?hr ?_;(case ho=>rfl);(case hg=>rfl);(case hn=>rfl);(case hr=>first|(go_simp;done)|(go_simp;rfl)|(have o134_:(v134:Value).oneCell'=true:=(by first|(obtain ⟨A_,c_,e_⟩:=Kd.R_slice HO135.out;rw [e_];rfl)|(obtain ⟨A_,c_,e_⟩:=Kd.S_slice HO135.out;rw [e_];rfl)|(obtain ⟨A_,c_,e_⟩:=Kd.N_slice HO135.out;rw [e_];rfl));go_simp;(try rw [run_store _ _ _ _ _ o134_]);go_simp;done));intro w13 hw;have hg:w11.grownBy w13 (some go10):=(by rw [hw];exact HP12.2);have hp_:Kd.S k57 57 w13 w.heap.size (fun _=>True) (.slice (some ⟨go10,0,none⟩) x3_1.length co10) y138:=(by rw [hw,Ny138.out];exact HP12.1);clear HP12;have n0_:=Aside0.mk (hp_);have n1_:=Aside0.mk ((by rw [hw];exact below_set (below_set (below_set (below_set (below_set (below_set (HB.out) GB10.out) GB10.out) GB10.out) GB10.out) GB10.out) GB10.out:Below w.heap.size w w13));clear HO_3;clear HB;clear HO135;have HO_3:=n0_;have HB:=n1_;clear n0_ n1_;clear hg hw hp_))
        go_roundg k1
        case measure=>have:=HK1.out;omega
        case rel=>exact ⟨(y138),(wrap64 (x4_1+1)),(by first|rfl|(simp;done)|(simp [*];done)),H',⟨by have:=HK1.out;omega⟩,⟨by (with_reducible repeat (first|apply Kd.S_alloc|apply Kd.S_drewN|apply Kd.S_drew));exact HO_3.out⟩,⟨by repeat (first|(with_reducible first|exact HB.out|apply below_alloc|apply pw_below_drewN|apply below_drew1)|exact HB.out)⟩⟩
       ·rw [if_neg c9] at H
        exact absurd H (by simp)
      ·rw [if_neg c7] at H
       exact absurd H (by simp)
     ·rw [if_neg c6] at H
      have c6b0:decide (x4_1<(l0.length:Int))=false:=decide_eq_false c6
      clear c6
      obtain rfl:=Option.some.inj H
      go_wp2
      go_ret
      exact ⟨_,by first|rfl|(simp [errW_none,errW_some]<;>rfl)|(simp [*,errW_none,errW_some]<;>rfl),by (with_reducible repeat (first|apply Kd.S_alloc|apply Kd.S_drewN|apply Kd.S_drew));exact HO_3.out,by repeat (first|(with_reducible first|exact HB.out|apply below_alloc|apply pw_below_drewN|apply below_drew1)|exact HB.out)⟩
  ·rw [if_neg c3] at H
   exact absurd H (by simp)
 ·rw [if_neg c2] at H
  exact absurd H (by simp)
/-! ### laws_toTree: function 7 -/
def laws_toTree.f (k:Nat) (l0_0:List (S63)):Option ((List (S57))):=(laws_toNodeS.f k l0_0).bind fun t142=>(some t142)
theorem laws_toTree.mono:∀ a0 k,LeO (laws_toTree.f k a0) (laws_toTree.f (k+1) a0):=by
 intro a0 k
 unfold laws_toTree.f
 repeat' first
   |(with_reducible exact laws_toNodeS.mono _ _)
   |(with_reducible exact LeO.refl _)
   |(with_reducible exact LeO.none _)
   |(with_reducible refine LeO.ite ?_ ?_)
   |(with_reducible refine LeO.bind ?_ (fun _=>?_))
   |exact laws_toNodeS.mono _ _
   |exact LeO.none _
   |refine LeO.ite ?_ ?_
   |refine LeO.bind ?_ (fun _=>?_)
set_option maxHeartbeats 8000000 in
set_option maxRecDepth 100000 in
theorem laws_toTree.calls (k:Nat) (A0_0:Option Addr) (c0_0:Nat) (l0_0:List (S63)) (r:List (S57)) (w:World) (hr0_0:Kd.C k63 w A0_0 l0_0.length l0_0) (hc0_0:l0_0.length≤c0_0) (h:laws_toTree.f k l0_0=some r) :
  Calls Tryz.prog 7 #[.agg #[.slice A0_0 l0_0.length c0_0]] w fun e w'=>∃ v0_:Value,e=.returned (.agg #[v0_])∧Kd.S k57 57 w' w.heap.size (fun _=>True) v0_ r∧Below w.heap.size w w':=by
 have hu24:=Tryz.underlying24
 have hu29:=Tryz.underlying29
 have HR0_0:=Aside0.mk hr0_0
 have HC0_0:=Aside0.mk hc0_0
 clear hr0_0 hc0_0
 have HB:=Aside0.mk (Below.refl w.heap.size w)
 have H:((laws_toNodeS.f k l0_0).bind fun t142=>(some t142))=some r:=h
 clear h
 replace H:=Option.bind_eq_some_iff.mp H
 obtain ⟨t142,A20,H⟩:=H
 replace H:(some t142)=some r:=H
 have A2:=Aside0.mk A20
 clear A20
 obtain rfl:=Option.some.inj H
 go_enter Tryz.func7,Tryz.ntmps7
 go_wp2_with (first|((with_reducible refine gate_dst (N:=1) rfl ?_);refine box_event ?hg (N:=1) ?hd (cs:=#[.slice A0_0 l0_0.length c0_0]) (t:=24) ?hr ?_;(case hd=>rfl);(case hg=>rfl);(case hr=>first|(go_simp;done)|(go_simp;rfl));intro gb139 hg w3 hbox hb;have n0_:=Aside0.mk (below_step (by repeat (first|(with_reducible first|exact HB.out|apply below_alloc|apply pw_below_drewN|apply below_drew1)|exact HB.out)) hb);have n1_:=Aside0.mk (hbox);have n2_:=Aside0.mk ((by rw [hg];exact (below_size (by repeat (first|(with_reducible first|exact HB.out|apply below_alloc|apply pw_below_drewN|apply below_drew1)|exact HB.out))):w.heap.size≤gb139));have n3_:=Aside0.mk ((by rw [hg];exact (below_size (by repeat (first|(with_reducible first|exact HB.out|apply below_alloc|apply pw_below_drewN|apply below_drew1)|exact HB.out))):w.heap.size≤gb139));clear HB;have HB:=n0_;have BK139:=n1_;have GW139:=n2_;have GE139:=n3_;clear n0_ n1_ n2_ n3_;clear hb hbox hg)|((with_reducible refine gate_dst (N:=2) rfl ?_);refine box_event ?hg (N:=2) ?hd (cs:=#[.slice none 0 0]) (t:=29) ?hr ?_;(case hd=>rfl);(case hg=>rfl);(case hr=>first|(go_simp;done)|(go_simp;rfl));intro gb140 hg w4 hbox hb;have n0_:=Aside0.mk (blk_below (g:=gb139) (o:=.cells #[.slice A0_0 l0_0.length c0_0] 24 (0,0)) (by (with_reducible repeat (first|refine blk_drewN ?_ _|refine blk_drew ?_|refine blk_alloc ?_ _));exact BK139.out) hb);have n1_:=Aside0.mk (below_step (by repeat (first|(with_reducible first|exact HB.out|apply below_alloc|apply pw_below_drewN|apply below_drew1|refine below_set ?_ GE139.out)|exact HB.out)) hb);have n2_:=Aside0.mk (hbox);have n3_:=Aside0.mk ((by rw [hg];exact (below_size (by repeat (first|(with_reducible first|exact HB.out|apply below_alloc|apply pw_below_drewN|apply below_drew1|refine below_set ?_ GE139.out)|exact HB.out))):w.heap.size≤gb140));have n4_:=Aside0.mk ((by rw [hg];exact (below_size (by repeat (first|(with_reducible first|exact HB.out|apply below_alloc|apply pw_below_drewN|apply below_drew1|refine below_set ?_ GE139.out)|exact HB.out))):w.heap.size≤gb140));have n5_:=Aside0.mk ((by rw [hg];exact Nat.ne_of_lt (blk_lt (g:=gb139) (o:=.cells #[.slice A0_0 l0_0.length c0_0] 24 (0,0)) (by (with_reducible repeat (first|refine blk_drewN ?_ _|refine blk_drew ?_|refine blk_alloc ?_ _));exact BK139.out)):gb139≠gb140));have n6_:=Aside0.mk ((by rw [hg];exact Nat.ne_of_gt (blk_lt (g:=gb139) (o:=.cells #[.slice A0_0 l0_0.length c0_0] 24 (0,0)) (by (with_reducible repeat (first|refine blk_drewN ?_ _|refine blk_drew ?_|refine blk_alloc ?_ _));exact BK139.out)):gb140≠gb139));clear BK139;clear HB;have BK139:=n0_;have HB:=n1_;have BK140:=n2_;have GW140:=n3_;have GE140:=n4_;have NB139_140:=n5_;have NB140_139:=n6_;clear n0_ n1_ n2_ n3_ n4_ n5_ n6_;clear hb hbox hg)|((with_reducible refine gate_dst (N:=3) rfl ?_);refine box_event ?hg (N:=3) ?hd (cs:=#[.slice none 0 0]) (t:=29) ?hr ?_;(case hd=>rfl);(case hg=>rfl);(case hr=>first|(go_simp;done)|(go_simp;rfl));intro gb141 hg w5 hbox hb;have n0_:=Aside0.mk (blk_below (g:=gb139) (o:=.cells #[.slice A0_0 l0_0.length c0_0] 24 (0,0)) (by (with_reducible repeat (first|refine blk_drewN ?_ _|refine blk_drew ?_|refine blk_alloc ?_ _));exact BK139.out) hb);have n1_:=Aside0.mk (blk_below (g:=gb140) (o:=.cells #[.slice none 0 0] 29 (0,0)) (by (with_reducible repeat (first|refine blk_drewN ?_ _|refine blk_drew ?_|refine blk_alloc ?_ _));exact BK140.out) hb);have n2_:=Aside0.mk (below_step (by repeat (first|(with_reducible first|exact HB.out|apply below_alloc|apply pw_below_drewN|apply below_drew1|refine below_set ?_ GE139.out|refine below_set ?_ GE140.out)|exact HB.out)) hb);have n3_:=Aside0.mk (hbox);have n4_:=Aside0.mk ((by rw [hg];exact (below_size (by repeat (first|(with_reducible first|exact HB.out|apply below_alloc|apply pw_below_drewN|apply below_drew1|refine below_set ?_ GE139.out|refine below_set ?_ GE140.out)|exact HB.out))):w.heap.size≤gb141));have n5_:=Aside0.mk ((by rw [hg];exact (below_size (by repeat (first|(with_reducible first|exact HB.out|apply below_alloc|apply pw_below_drewN|apply below_drew1|refine below_set ?_ GE139.out|refine below_set ?_ GE140.out)|exact HB.out))):w.heap.size≤gb141));have n6_:=Aside0.mk ((by rw [hg];exact Nat.ne_of_lt (blk_lt (g:=gb139) (o:=.cells #[.slice A0_0 l0_0.length c0_0] 24 (0,0)) (by (with_reducible repeat (first|refine blk_drewN ?_ _|refine blk_drew ?_|refine blk_alloc ?_ _));exact BK139.out)):gb139≠gb141));have n7_:=Aside0.mk ((by rw [hg];exact Nat.ne_of_gt (blk_lt (g:=gb139) (o:=.cells #[.slice A0_0 l0_0.length c0_0] 24 (0,0)) (by (with_reducible repeat (first|refine blk_drewN ?_ _|refine blk_drew ?_|refine blk_alloc ?_ _));exact BK139.out)):gb141≠gb139));have n8_:=Aside0.mk ((by rw [hg];exact Nat.ne_of_lt (blk_lt (g:=gb140) (o:=.cells #[.slice none 0 0] 29 (0,0)) (by (with_reducible repeat (first|refine blk_drewN ?_ _|refine blk_drew ?_|refine blk_alloc ?_ _));exact BK140.out)):gb140≠gb141));have n9_:=Aside0.mk ((by rw [hg];exact Nat.ne_of_gt (blk_lt (g:=gb140) (o:=.cells #[.slice none 0 0] 29 (0,0)) (by (with_reducible repeat (first|refine blk_drewN ?_ _|refine blk_drew ?_|refine blk_alloc ?_ _));exact BK140.out)):gb141≠gb140));clear BK139;clear BK140;clear HB;have BK139:=n0_;have BK140:=n1_;have HB:=n2_;have BK141:=n3_;have GW141:=n4_;have GE141:=n5_;have NB139_141:=n6_;have NB141_139:=n7_;have NB140_141:=n8_;have NB141_140:=n9_;clear n0_ n1_ n2_ n3_ n4_ n5_ n6_ n7_ n8_ n9_;clear hb hbox hg;have hnb6:=NB139_140.out;have hnc6:=NB140_139.out;have hnb7:=NB139_141.out;have hnc7:=NB141_139.out;have hcz8_0:w5.cell? ⟨gb139,0,none⟩=some (.slice A0_0 l0_0.length c0_0):=(blk_cell BK139.out 0).trans rfl;have hfz8_0:=blk_frozen BK139.out 0)|((with_reducible refine gate_callee (f:=15) rfl ?_);refine goesL_ (some 6) rfl rfl Tryz.func15 (by kernel_rfl) rfl #[.slice A0_0 l0_0.length c0_0] rfl (by (try simp only [List.map_toArray,List.map_cons,List.map_nil]);first|done|rfl|(simp only [List.length_drop,List.length_take];rfl)) ?_;(with_reducible refine (laws_toNodeS.calls k _ _ l0_0 t142 _ ?side1 ?side2 A2.out).mono ?_);(case side1=>repeat (first|exact (Kd.C_below HR0_0.out HB.out)|(with_reducible refine Kd.C_alloc ?_ _)|(with_reducible refine Kd.C_drewN ?_ _)|(with_reducible refine Kd.C_drew ?_)));(case side2=>exact HC0_0.out);rintro e w9 ⟨v143,rfl,ho0,hb⟩;refine ⟨_,rfl,?_⟩;have n0_:=Aside0.mk (Kd.S_lower ho0 (below_size (by repeat (first|(with_reducible first|exact HB.out|apply below_alloc|apply pw_below_drewN|apply below_drew1|refine below_set ?_ GE139.out|refine below_set ?_ GE140.out|refine below_set ?_ GE141.out)|exact HB.out))));have n1_:=Aside0.mk (blk_below (g:=gb139) (o:=.cells #[.slice A0_0 l0_0.length c0_0] 24 (0,0)) (by (with_reducible repeat (first|refine blk_drewN ?_ _|refine blk_drew ?_|refine blk_alloc ?_ _));exact BK139.out) hb);have n2_:=Aside0.mk (blk_below (g:=gb140) (o:=.cells #[.slice none 0 0] 29 (0,0)) (by (with_reducible repeat (first|refine blk_drewN ?_ _|refine blk_drew ?_|refine blk_alloc ?_ _));exact BK140.out) hb);have n3_:=Aside0.mk (blk_below (g:=gb141) (o:=.cells #[.slice none 0 0] 29 (0,0)) (by (with_reducible repeat (first|refine blk_drewN ?_ _|refine blk_drew ?_|refine blk_alloc ?_ _));exact BK141.out) hb);have n4_:=Aside0.mk (below_step (by repeat (first|(with_reducible first|exact HB.out|apply below_alloc|apply pw_below_drewN|apply below_drew1|refine below_set ?_ GE139.out|refine below_set ?_ GE140.out|refine below_set ?_ GE141.out)|exact HB.out)) hb);clear BK139;clear BK140;clear BK141;clear HB;have HO144:=n0_;have BK139:=n1_;have BK140:=n2_;have BK141:=n3_;have HB:=n4_;clear n0_ n1_ n2_ n3_ n4_;(try clear hb);(try clear hb2);(try clear hk);(try clear hi);(try clear ho0);obtain ⟨Ao10,co10,eo10⟩:=Kd.S_slice HO144.out;subst eo10;have hnb11:=NB141_140.out;have hnc11:=NB140_141.out;have hcz12_0:w9.cell? ⟨gb141,0,none⟩=some (.slice none 0 0):=(blk_cell BK141.out 0).trans rfl;have hfz12_0:=blk_frozen BK141.out 0;have hcz13_0:w9.cell? ⟨gb140,0,none⟩=some (.slice none 0 0):=(blk_cell BK140.out 0).trans rfl;have hfz13_0:=blk_frozen BK140.out 0))
 refine bodyPost_ret (results_cell_row rfl _ _ gb140 29 #[.slice Ao10 t142.length co10] (0,0) _ rfl (by (with_reducible repeat (first|refine blk_drewN ?_ _|refine blk_drew ?_|refine blk_alloc ?_ _));refine blk_put (cs:=#[.slice none 0 0]) ?_ 0 _ rfl;(with_reducible repeat (first|refine blk_drewN ?_ _|refine blk_drew ?_|refine blk_alloc ?_ _));refine blk_far ?_ NB140_141.out _;(with_reducible repeat (first|refine blk_drewN ?_ _|refine blk_drew ?_|refine blk_alloc ?_ _));exact BK140.out) Tryz.underlying29 rfl (by kernel_rfl)) rfl ?_
 exact ⟨_,by first|rfl|(simp [errW_none,errW_some]<;>rfl)|(simp [*,errW_none,errW_some]<;>rfl),by (with_reducible repeat (first|apply Kd.S_alloc|apply Kd.S_drewN|apply Kd.S_drew));exact Kd.S_mono (Kd.S_far (p:=⟨gb140,0,none⟩) (Kd.S_far (p:=⟨gb141,0,none⟩) (Kd.S_types (Kd.S_types HO144.out BK141.out (by decide)) BK140.out (by decide)) (fun _ hk=>hk.1.2) (.slice Ao10 t142.length co10)) (fun _ hk=>hk.2) (.slice Ao10 t142.length co10)) (fun _ hk=>trivial),by repeat (first|(with_reducible first|exact HB.out|apply below_alloc|apply pw_below_drewN|apply below_drew1|refine below_set ?_ GE139.out|refine below_set ?_ GE140.out|refine below_set ?_ GE141.out)|exact HB.out)⟩
/-! ### laws_eqAttr: function 54 -/
def laws_eqAttr.f (a0_0:ByteArray) (a0_1:ByteArray) (a1_0:ByteArray) (a1_1:ByteArray):Option (Bool):=if a0_0.toList=a1_0.toList then (if a0_1.toList=a1_1.toList then (some true) else (none)) else (none)
set_option maxHeartbeats 8000000 in
set_option maxRecDepth 100000 in
theorem laws_eqAttr.calls (a0_0:ByteArray) (a0_1:ByteArray) (a1_0:ByteArray) (a1_1:ByteArray) (r:Bool) (w:World) (h:laws_eqAttr.f a0_0 a0_1 a1_0 a1_1=some r) :
  Calls Tryz.prog 54 #[.agg #[.string a0_0,.string a0_1],.agg #[.string a1_0,.string a1_1]] w fun e w'=>e=.returned (.bool r)∧Below w.heap.size w w':=by
 have hu77:=Tryz.underlying77
 have HB:=Aside0.mk (Below.refl w.heap.size w)
 have H:(if a0_0.toList=a1_0.toList then (if a0_1.toList=a1_1.toList then (some true) else (none)) else (none))=some r:=h
 clear h
 by_cases c3:a0_0.toList=a1_0.toList
 ·rw [if_pos c3] at H
  have c3b0:(a0_0.toList==a1_0.toList)=true:=beq_iff_eq.mpr c3
  have c3b1:(a0_0.toList != a1_0.toList)=false:=bne_eq_false_iff_eq.mpr c3
  clear c3
  by_cases c4:a0_1.toList=a1_1.toList
  ·rw [if_pos c4] at H
   have c4b0:(a0_1.toList==a1_1.toList)=true:=beq_iff_eq.mpr c4
   have c4b1:(a0_1.toList != a1_1.toList)=false:=bne_eq_false_iff_eq.mpr c4
   clear c4
   obtain rfl:=Option.some.inj H
   go_enter Tryz.func54,Tryz.ntmps54
   go_wp2_with (first|((with_reducible refine gate_dst (N:=2) rfl ?_);refine box_event ?hg (N:=2) ?hd (cs:=#[.string a0_0,.string a0_1]) (t:=77) ?hr ?_;(case hd=>rfl);(case hg=>rfl);(case hr=>first|(go_simp;done)|(go_simp;rfl));intro gb145 hg w5 hbox hb;have n0_:=Aside0.mk (below_step (by repeat (first|(with_reducible first|exact HB.out|apply below_alloc|apply pw_below_drewN|apply below_drew1)|exact HB.out)) hb);have n1_:=Aside0.mk (hbox);have n2_:=Aside0.mk ((by rw [hg];exact (below_size (by repeat (first|(with_reducible first|exact HB.out|apply below_alloc|apply pw_below_drewN|apply below_drew1)|exact HB.out))):w.heap.size≤gb145));have n3_:=Aside0.mk ((by rw [hg];exact (below_size (by repeat (first|(with_reducible first|exact HB.out|apply below_alloc|apply pw_below_drewN|apply below_drew1)|exact HB.out))):w.heap.size≤gb145));clear HB;have HB:=n0_;have BK145:=n1_;have GW145:=n2_;have GE145:=n3_;clear n0_ n1_ n2_ n3_;clear hb hbox hg)|((with_reducible refine gate_dst (N:=3) rfl ?_);refine box_event ?hg (N:=3) ?hd (cs:=#[.string a1_0,.string a1_1]) (t:=77) ?hr ?_;(case hd=>rfl);(case hg=>rfl);(case hr=>first|(go_simp;done)|(go_simp;rfl));intro gb146 hg w6 hbox hb;have n0_:=Aside0.mk (blk_below (g:=gb145) (o:=.cells #[.string a0_0,.string a0_1] 77 (0,0)) (by (with_reducible repeat (first|refine blk_drewN ?_ _|refine blk_drew ?_|refine blk_alloc ?_ _));exact BK145.out) hb);have n1_:=Aside0.mk (below_step (by repeat (first|(with_reducible first|exact HB.out|apply below_alloc|apply pw_below_drewN|apply below_drew1|refine below_set ?_ GE145.out)|exact HB.out)) hb);have n2_:=Aside0.mk (hbox);have n3_:=Aside0.mk ((by rw [hg];exact (below_size (by repeat (first|(with_reducible first|exact HB.out|apply below_alloc|apply pw_below_drewN|apply below_drew1|refine below_set ?_ GE145.out)|exact HB.out))):w.heap.size≤gb146));have n4_:=Aside0.mk ((by rw [hg];exact (below_size (by repeat (first|(with_reducible first|exact HB.out|apply below_alloc|apply pw_below_drewN|apply below_drew1|refine below_set ?_ GE145.out)|exact HB.out))):w.heap.size≤gb146));have n5_:=Aside0.mk ((by rw [hg];exact Nat.ne_of_lt (blk_lt (g:=gb145) (o:=.cells #[.string a0_0,.string a0_1] 77 (0,0)) (by (with_reducible repeat (first|refine blk_drewN ?_ _|refine blk_drew ?_|refine blk_alloc ?_ _));exact BK145.out)):gb145≠gb146));have n6_:=Aside0.mk ((by rw [hg];exact Nat.ne_of_gt (blk_lt (g:=gb145) (o:=.cells #[.string a0_0,.string a0_1] 77 (0,0)) (by (with_reducible repeat (first|refine blk_drewN ?_ _|refine blk_drew ?_|refine blk_alloc ?_ _));exact BK145.out)):gb146≠gb145));clear BK145;clear HB;have BK145:=n0_;have HB:=n1_;have BK146:=n2_;have GW146:=n3_;have GE146:=n4_;have NB145_146:=n5_;have NB146_145:=n6_;clear n0_ n1_ n2_ n3_ n4_ n5_ n6_;clear hb hbox hg;have hnb7:=NB145_146.out;have hnc7:=NB146_145.out;have hcz8_0:w6.cell? ⟨gb145,0,none⟩=some (.string a0_0):=(blk_cell BK145.out 0).trans rfl;have hcz8_1:w6.cell? ⟨gb145,1,none⟩=some (.string a0_1):=(blk_cell BK145.out 1).trans rfl;have hfz8_0:=blk_frozen BK145.out 0;have hfz8_1:=blk_frozen BK145.out 1;have hcz9_0:w6.cell? ⟨gb146,0,none⟩=some (.string a1_0):=(blk_cell BK146.out 0).trans rfl;have hcz9_1:w6.cell? ⟨gb146,1,none⟩=some (.string a1_1):=(blk_cell BK146.out 1).trans rfl;have hfz9_0:=blk_frozen BK146.out 0;have hfz9_1:=blk_frozen BK146.out 1))
   go_ret
   exact ⟨by first|rfl|(simp [errW_none,errW_some]<;>rfl)|(simp [*,errW_none,errW_some]<;>rfl),by repeat (first|(with_reducible first|exact HB.out|apply below_alloc|apply pw_below_drewN|apply below_drew1|refine below_set ?_ GE145.out|refine below_set ?_ GE146.out)|exact HB.out)⟩
  ·rw [if_neg c4] at H
   exact absurd H (by simp)
 ·rw [if_neg c3] at H
  exact absurd H (by simp)
end Go.Proofs.YtjojmfhgfeflnaaGreatDoor.QFnExactInner
