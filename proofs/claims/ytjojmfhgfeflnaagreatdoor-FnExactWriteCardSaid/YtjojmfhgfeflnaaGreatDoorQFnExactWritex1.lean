/- Written by a program (wip/tools/own_print.py) out of the walk that the kit's printer made; turned where it fell. -/
-- PRINTED by print.py (a twelfth state) out of the translation. Not trusted: Lean checks it.
import Derived.Test.YtjojmfhgfeflnaaGreatDoorQFnExactWritex0
namespace Go.Proofs.YtjojmfhgfeflnaaGreatDoor.QFnExactWrite
open Go.RowKit Go.Proofs.YtjojmfhgfeflnaaGreatDoorV.PrintWords Go.Proofs.YtjojmfhgfeflnaaGreatDoorV.PrintLast Go.Proofs.YtjojmfhgfeflnaaGreatDoorV.PrintMore
attribute [local go_sem] max2_int min2_int max_two min_two max_three min_three max_four min_four   -- for this text's walks alone
set_option linter.unusedVariables false
set_option linter.unusedSimpArgs false
/-! ### laws_szAttr: function 45 -/
def laws_szAttr.f (a0_0:ByteArray) (a0_1:ByteArray) (a1:Int):Option (Int):=if (wrap64 (a1 - (a0_0.size:Int)))<0 then (some (-1)) else (if (wrap64 ((wrap64 (a1 - (a0_0.size:Int))) - (a0_1.size:Int)))<0 then (some (-1)) else (some (wrap64 ((wrap64 (a1 - (a0_0.size:Int))) - (a0_1.size:Int)))))
set_option maxHeartbeats 8000000 in
set_option maxRecDepth 100000 in
theorem laws_szAttr.calls (a0_0:ByteArray) (a0_1:ByteArray) (a1:Int) (r:Int) (w:World) (h:laws_szAttr.f a0_0 a0_1 a1=some r) :
  Calls Tryz.prog 45 #[.agg #[.string a0_0,.string a0_1],.int .i64 a1] w fun e w'=>e=.returned (.int .i64 r)∧Below w.heap.size w w':=by
 have hu91:=Tryz.underlying91
 have HB:=Aside0.mk (Below.refl w.heap.size w)
 have H:(if (wrap64 (a1 - (a0_0.size:Int)))<0 then (some (-1)) else (if (wrap64 ((wrap64 (a1 - (a0_0.size:Int))) - (a0_1.size:Int)))<0 then (some (-1)) else (some (wrap64 ((wrap64 (a1 - (a0_0.size:Int))) - (a0_1.size:Int))))))=some r:=h
 clear h
 by_cases c3:(wrap64 (a1 - (a0_0.size:Int)))<0
 ·rw [if_pos c3] at H
  have c3b0:decide ((wrap64 (a1 - (a0_0.size:Int)))<0)=true:=decide_eq_true c3
  clear c3
  obtain rfl:=Option.some.inj H
  go_enter Tryz.func45,Tryz.ntmps45
  go_wp2_with (first|((with_reducible refine gate_dst (N:=2) rfl ?_);refine box_event ?hg (N:=2) ?hd (cs:=#[.string a0_0,.string a0_1]) (t:=91) ?hr ?_;(case hd=>rfl);(case hg=>rfl);(case hr=>first|(go_simp;done)|(go_simp;rfl));intro gb101 hg w4 hbox hb;have n0_:=Aside0.mk (below_step (by repeat (first|(with_reducible first|exact HB.out|apply below_alloc|apply pw_below_drewN|apply below_drew1)|exact HB.out)) hb);have n1_:=Aside0.mk (hbox);have n2_:=Aside0.mk ((by rw [hg];exact (below_size (by repeat (first|(with_reducible first|exact HB.out|apply below_alloc|apply pw_below_drewN|apply below_drew1)|exact HB.out))):w.heap.size≤gb101));have n3_:=Aside0.mk ((by rw [hg];exact (below_size (by repeat (first|(with_reducible first|exact HB.out|apply below_alloc|apply pw_below_drewN|apply below_drew1)|exact HB.out))):w.heap.size≤gb101));clear HB;have HB:=n0_;have BK101:=n1_;have GW101:=n2_;have GE101:=n3_;clear n0_ n1_ n2_ n3_;clear hb hbox hg;have hcz5_0:w4.cell? ⟨gb101,0,none⟩=some (.string a0_0):=(blk_cell BK101.out 0).trans rfl;have hcz5_1:w4.cell? ⟨gb101,1,none⟩=some (.string a0_1):=(blk_cell BK101.out 1).trans rfl;have hfz5_0:=blk_frozen BK101.out 0;have hfz5_1:=blk_frozen BK101.out 1))
  go_ret
  exact ⟨by first|rfl|(simp [errW_none,errW_some]<;>rfl)|(simp [*,errW_none,errW_some]<;>rfl),by repeat (first|(with_reducible first|exact HB.out|apply below_alloc|apply pw_below_drewN|apply below_drew1|refine below_set ?_ GE101.out)|exact HB.out)⟩
 ·rw [if_neg c3] at H
  have c3b0:decide ((wrap64 (a1 - (a0_0.size:Int)))<0)=false:=decide_eq_false c3
  clear c3
  by_cases c6:(wrap64 ((wrap64 (a1 - (a0_0.size:Int))) - (a0_1.size:Int)))<0
  ·rw [if_pos c6] at H
   have c6b0:decide ((wrap64 ((wrap64 (a1 - (a0_0.size:Int))) - (a0_1.size:Int)))<0)=true:=decide_eq_true c6
   clear c6
   obtain rfl:=Option.some.inj H
   go_enter Tryz.func45,Tryz.ntmps45
   go_wp2_with (first|((with_reducible refine gate_dst (N:=2) rfl ?_);refine box_event ?hg (N:=2) ?hd (cs:=#[.string a0_0,.string a0_1]) (t:=91) ?hr ?_;(case hd=>rfl);(case hg=>rfl);(case hr=>first|(go_simp;done)|(go_simp;rfl));intro gb101 hg w7 hbox hb;have n0_:=Aside0.mk (below_step (by repeat (first|(with_reducible first|exact HB.out|apply below_alloc|apply pw_below_drewN|apply below_drew1)|exact HB.out)) hb);have n1_:=Aside0.mk (hbox);have n2_:=Aside0.mk ((by rw [hg];exact (below_size (by repeat (first|(with_reducible first|exact HB.out|apply below_alloc|apply pw_below_drewN|apply below_drew1)|exact HB.out))):w.heap.size≤gb101));have n3_:=Aside0.mk ((by rw [hg];exact (below_size (by repeat (first|(with_reducible first|exact HB.out|apply below_alloc|apply pw_below_drewN|apply below_drew1)|exact HB.out))):w.heap.size≤gb101));clear HB;have HB:=n0_;have BK101:=n1_;have GW101:=n2_;have GE101:=n3_;clear n0_ n1_ n2_ n3_;clear hb hbox hg;have hcz8_0:w7.cell? ⟨gb101,0,none⟩=some (.string a0_0):=(blk_cell BK101.out 0).trans rfl;have hcz8_1:w7.cell? ⟨gb101,1,none⟩=some (.string a0_1):=(blk_cell BK101.out 1).trans rfl;have hfz8_0:=blk_frozen BK101.out 0;have hfz8_1:=blk_frozen BK101.out 1))
   go_ret
   exact ⟨by first|rfl|(simp [errW_none,errW_some]<;>rfl)|(simp [*,errW_none,errW_some]<;>rfl),by repeat (first|(with_reducible first|exact HB.out|apply below_alloc|apply pw_below_drewN|apply below_drew1|refine below_set ?_ GE101.out)|exact HB.out)⟩
  ·rw [if_neg c6] at H
   have c6b0:decide ((wrap64 ((wrap64 (a1 - (a0_0.size:Int))) - (a0_1.size:Int)))<0)=false:=decide_eq_false c6
   clear c6
   obtain rfl:=Option.some.inj H
   go_enter Tryz.func45,Tryz.ntmps45
   go_wp2_with (first|((with_reducible refine gate_dst (N:=2) rfl ?_);refine box_event ?hg (N:=2) ?hd (cs:=#[.string a0_0,.string a0_1]) (t:=91) ?hr ?_;(case hd=>rfl);(case hg=>rfl);(case hr=>first|(go_simp;done)|(go_simp;rfl));intro gb101 hg w9 hbox hb;have n0_:=Aside0.mk (below_step (by repeat (first|(with_reducible first|exact HB.out|apply below_alloc|apply pw_below_drewN|apply below_drew1)|exact HB.out)) hb);have n1_:=Aside0.mk (hbox);have n2_:=Aside0.mk ((by rw [hg];exact (below_size (by repeat (first|(with_reducible first|exact HB.out|apply below_alloc|apply pw_below_drewN|apply below_drew1)|exact HB.out))):w.heap.size≤gb101));have n3_:=Aside0.mk ((by rw [hg];exact (below_size (by repeat (first|(with_reducible first|exact HB.out|apply below_alloc|apply pw_below_drewN|apply below_drew1)|exact HB.out))):w.heap.size≤gb101));clear HB;have HB:=n0_;have BK101:=n1_;have GW101:=n2_;have GE101:=n3_;clear n0_ n1_ n2_ n3_;clear hb hbox hg;have hcz10_0:w9.cell? ⟨gb101,0,none⟩=some (.string a0_0):=(blk_cell BK101.out 0).trans rfl;have hcz10_1:w9.cell? ⟨gb101,1,none⟩=some (.string a0_1):=(blk_cell BK101.out 1).trans rfl;have hfz10_0:=blk_frozen BK101.out 0;have hfz10_1:=blk_frozen BK101.out 1))
   go_ret
   exact ⟨by first|rfl|(simp [errW_none,errW_some]<;>rfl)|(simp [*,errW_none,errW_some]<;>rfl),by repeat (first|(with_reducible first|exact HB.out|apply below_alloc|apply pw_below_drewN|apply below_drew1|refine below_set ?_ GE101.out)|exact HB.out)⟩
/-! ### laws_szAttrS: function 31 -/
def laws_szAttrS.l0:Nat→List (S91)→Int→Int→Option (Int)
 |0,_,_,_=>none
 |k+1,x0,x1,x5=>if x5<(x0.length:Int) then (if 0≤x5 then ((laws_szAttr.f ((rd_T91 x0 x5).f0) ((rd_T91 x0 x5).f1) x1).bind fun t103=>(if t103<0 then (some (-1)) else (laws_szAttrS.l0 k x0 t103 (wrap64 (x5+1))))) else (none)) else (some x1)
def laws_szAttrS.f (k:Nat) (l0:List (S91)) (a1:Int):Option (Int):=if (wrap64 (a1 - (l0.length:Int)))<0 then (some (-1)) else (laws_szAttrS.l0 k l0 (wrap64 (a1 - (l0.length:Int))) 0)
theorem laws_szAttrS.mono_l:∀ k,(∀ y0 y1 y2,LeO (laws_szAttrS.l0 k y0 y1 y2) (laws_szAttrS.l0 (k+1) y0 y1 y2))
 |0=>fun _ _ _ r h=>by simp [laws_szAttrS.l0] at h
 |k+1=>by
  have ih0:=laws_szAttrS.mono_l k
  ·intro y0 y1 y2
   unfold laws_szAttrS.l0
   repeat' first
   |(with_reducible exact ih0 _ _ _)
   |(with_reducible exact LeO.refl _)
   |(with_reducible exact LeO.none _)
   |(with_reducible refine LeO.ite ?_ ?_)
   |(with_reducible refine LeO.bind ?_ (fun _=>?_))
   |exact ih0 _ _ _
   |exact LeO.none _
   |refine LeO.ite ?_ ?_
   |refine LeO.bind ?_ (fun _=>?_)
theorem laws_szAttrS.mono:∀ a0 a1 k,LeO (laws_szAttrS.f k a0 a1) (laws_szAttrS.f (k+1) a0 a1):=by
 intro a0 a1 k
 have ih0:=laws_szAttrS.mono_l k
 unfold laws_szAttrS.f
 repeat' first
   |(with_reducible exact ih0 _ _ _)
   |(with_reducible exact LeO.refl _)
   |(with_reducible exact LeO.none _)
   |(with_reducible refine LeO.ite ?_ ?_)
   |(with_reducible refine LeO.bind ?_ (fun _=>?_))
   |exact ih0 _ _ _
   |exact LeO.none _
   |refine LeO.ite ?_ ?_
   |refine LeO.bind ?_ (fun _=>?_)
set_option maxHeartbeats 8000000 in
set_option maxRecDepth 100000 in
theorem laws_szAttrS.calls (k:Nat) (A0:Option Addr) (c0:Nat) (l0:List (S91)) (a1:Int) (r:Int) (w:World) (hr0:Kd.C k91 w A0 l0.length l0) (hc0:l0.length≤c0) (h:laws_szAttrS.f k l0 a1=some r) :
  Calls Tryz.prog 31 #[.slice A0 l0.length c0,.int .i64 a1] w fun e w'=>e=.returned (.int .i64 r)∧Below w.heap.size w w':=by
 have hu91:=Tryz.underlying91
 have HR0:=Aside0.mk hr0
 have HC0:=Aside0.mk hc0
 clear hr0 hc0
 have HB:=Aside0.mk (Below.refl w.heap.size w)
 have H:(if (wrap64 (a1 - (l0.length:Int)))<0 then (some (-1)) else (laws_szAttrS.l0 k l0 (wrap64 (a1 - (l0.length:Int))) 0))=some r:=h
 clear h
 by_cases c3:(wrap64 (a1 - (l0.length:Int)))<0
 ·rw [if_pos c3] at H
  have c3b0:decide ((wrap64 (a1 - (l0.length:Int)))<0)=true:=decide_eq_true c3
  clear c3
  obtain rfl:=Option.some.inj H
  go_enter Tryz.func31,Tryz.ntmps31
  go_wp2
  go_ret
  exact ⟨by first|rfl|(simp [errW_none,errW_some]<;>rfl)|(simp [*,errW_none,errW_some]<;>rfl),by repeat (first|(with_reducible first|exact HB.out|apply below_alloc|apply pw_below_drewN|apply below_drew1)|exact HB.out)⟩
 ·rw [if_neg c3] at H
  have c3b0:decide ((wrap64 (a1 - (l0.length:Int)))<0)=false:=decide_eq_false c3
  clear c3
  have H':=Aside0.mk H
  clear H
  go_enter Tryz.func31,Tryz.ntmps31
  go_wp2
  go_loopg [1,5] k (fun kq v1 v5 w'=>∃ (x1_1:Int) (x5_1:Int),v1=.int .i64 x1_1∧v5=.int .i64 x5_1∧Aside0 (laws_szAttrS.l0 kq l0 x1_1 x5_1=some r)∧Aside0 (kq≤k)∧Aside0 (Below w.heap.size w w'))
  case atStart=>exact ⟨(wrap64 (a1 - (l0.length:Int))),(0),(by first|rfl|(simp;done)|(simp [*];done)),(by first|rfl|(simp;done)|(simp [*];done)),H',⟨Nat.le_refl _⟩,⟨by repeat (first|(with_reducible first|exact HB.out|apply below_alloc|apply pw_below_drewN|apply below_drew1)|exact HB.out)⟩⟩
  case round=>
   clear H'
   try clear p2
   try clear c3
   try clear c3b0
   obtain ⟨x1_1,x5_1,rfl,rfl,HA,HK1,HB⟩:=hrel
   cases gk with
   |zero=>exact absurd HA.out (by simp [laws_szAttrS.l0])
   |succ k1=>
    have H:=HA.out
    clear HA
    simp only [laws_szAttrS.l0] at H
    by_cases c4:x5_1<(l0.length:Int)
    ·rw [if_pos c4] at H
     have c4b0:decide (x5_1<(l0.length:Int))=true:=decide_eq_true c4
     clear c4
     by_cases c5:0≤x5_1
     ·rw [if_pos c5] at H
      have c5b0:decide (0≤x5_1)=true:=decide_eq_true c5
      clear c5
      replace H:=Option.bind_eq_some_iff.mp H
      obtain ⟨t103,A60,H⟩:=H
      replace H:(if t103<0 then (some (-1)) else (laws_szAttrS.l0 k1 l0 t103 (wrap64 (x5_1+1))))=some r:=H
      have A6:=Aside0.mk A60
      clear A60
      by_cases c7:t103<0
      ·rw [if_pos c7] at H
       have c7b0:decide (t103<0)=true:=decide_eq_true c7
       clear c7
       obtain rfl:=Option.some.inj H
       have p102:0≤(x5_1:Int):=of_decide_eq_true (by first|(with_reducible assumption)|assumption)
       have q102:x5_1<(l0.length:Int):=of_decide_eq_true (by first|(with_reducible assumption)|assumption)
       obtain ⟨ad102,e102,hx102_0,hx102_1⟩:=at_T91 HR0.out x5_1 p102 q102
       cases e102
       replace hx102_0:=(HB.out.cell (World.block_lt_of_cell? w _ hx102_0)).trans hx102_0
       replace hx102_1:=(HB.out.cell (World.block_lt_of_cell? w _ hx102_1)).trans hx102_1
       replace p102:=eq_true p102
       replace q102:=eq_true q102
       go_wp2_with (first|((with_reducible refine gate_callee (f:=45) rfl ?_);refine goesL_ (some 23) rfl rfl Tryz.func45 (by kernel_rfl) rfl #[.agg #[.string ((rd_T91 l0 x5_1).f0),.string ((rd_T91 l0 x5_1).f1)],.int .i64 x1_1] rfl (by (try simp only [List.map_toArray,List.map_cons,List.map_nil]);first|done|rfl|(simp only [List.length_drop,List.length_take];rfl)) ?_;(with_reducible refine (laws_szAttr.calls ((rd_T91 l0 x5_1).f0) ((rd_T91 l0 x5_1).f1) x1_1 t103 _ A6.out).mono ?_);rintro e w8 ⟨rfl,hb⟩;refine ⟨_,rfl,?_⟩;have n0_:=Aside0.mk (below_step (by repeat (first|(with_reducible first|exact HB.out|apply below_alloc|apply pw_below_drewN|apply below_drew1)|exact HB.out)) hb);clear HB;have HB:=n0_;clear n0_;(try clear hb);(try clear hb2);(try clear hk);(try clear hi)))
       go_ret
       exact ⟨by first|rfl|(simp [errW_none,errW_some]<;>rfl)|(simp [*,errW_none,errW_some]<;>rfl),by repeat (first|(with_reducible first|exact HB.out|apply below_alloc|apply pw_below_drewN|apply below_drew1)|exact HB.out)⟩
      ·rw [if_neg c7] at H
       have c7b0:decide (t103<0)=false:=decide_eq_false c7
       clear c7
       have H':=Aside0.mk H
       clear H
       have p102:0≤(x5_1:Int):=of_decide_eq_true (by first|(with_reducible assumption)|assumption)
       have q102:x5_1<(l0.length:Int):=of_decide_eq_true (by first|(with_reducible assumption)|assumption)
       obtain ⟨ad102,e102,hx102_0,hx102_1⟩:=at_T91 HR0.out x5_1 p102 q102
       cases e102
       replace hx102_0:=(HB.out.cell (World.block_lt_of_cell? w _ hx102_0)).trans hx102_0
       replace hx102_1:=(HB.out.cell (World.block_lt_of_cell? w _ hx102_1)).trans hx102_1
       replace p102:=eq_true p102
       replace q102:=eq_true q102
       go_wp2_with (first|((with_reducible refine gate_callee (f:=45) rfl ?_);refine goesL_ (some 23) rfl rfl Tryz.func45 (by kernel_rfl) rfl #[.agg #[.string ((rd_T91 l0 x5_1).f0),.string ((rd_T91 l0 x5_1).f1)],.int .i64 x1_1] rfl (by (try simp only [List.map_toArray,List.map_cons,List.map_nil]);first|done|rfl|(simp only [List.length_drop,List.length_take];rfl)) ?_;(with_reducible refine (laws_szAttr.calls ((rd_T91 l0 x5_1).f0) ((rd_T91 l0 x5_1).f1) x1_1 t103 _ A6.out).mono ?_);rintro e w9 ⟨rfl,hb⟩;refine ⟨_,rfl,?_⟩;have n0_:=Aside0.mk (below_step (by repeat (first|(with_reducible first|exact HB.out|apply below_alloc|apply pw_below_drewN|apply below_drew1)|exact HB.out)) hb);clear HB;have HB:=n0_;clear n0_;(try clear hb);(try clear hb2);(try clear hk);(try clear hi)))
       go_roundg k1
       case measure=>have:=HK1.out;omega
       case rel=>exact ⟨(t103),(wrap64 (x5_1+1)),(by first|rfl|(simp;done)|(simp [*];done)),(by first|rfl|(simp;done)|(simp [*];done)),H',⟨by have:=HK1.out;omega⟩,⟨by repeat (first|(with_reducible first|exact HB.out|apply below_alloc|apply pw_below_drewN|apply below_drew1)|exact HB.out)⟩⟩
     ·rw [if_neg c5] at H
      exact absurd H (by simp)
    ·rw [if_neg c4] at H
     have c4b0:decide (x5_1<(l0.length:Int))=false:=decide_eq_false c4
     clear c4
     obtain rfl:=Option.some.inj H
     go_wp2
     go_ret
     exact ⟨by first|rfl|(simp [errW_none,errW_some]<;>rfl)|(simp [*,errW_none,errW_some]<;>rfl),by repeat (first|(with_reducible first|exact HB.out|apply below_alloc|apply pw_below_drewN|apply below_drew1)|exact HB.out)⟩
/-! ### laws_szNode: function 22 -/
def laws_szNode.f (k:Nat) (a0_0:Int) (a0_1:Int) (a0_2:ByteArray) (l0_3:List (S91)) (a0_4:ByteArray) (a0_5:Int) (a1:Int):Option (Int):=if (wrap64 (a1 - (a0_2.size:Int)))<0 then (some (-1)) else ((laws_szAttrS.f k l0_3 (wrap64 (a1 - (a0_2.size:Int)))).bind fun t105=>(if t105<0 then (some (-1)) else (if (wrap64 (t105 - (a0_4.size:Int)))<0 then (some (-1)) else (some (wrap64 (t105 - (a0_4.size:Int)))))))
theorem laws_szNode.mono:∀ a0 a1 a2 a3 a4 a5 a6 k,LeO (laws_szNode.f k a0 a1 a2 a3 a4 a5 a6) (laws_szNode.f (k+1) a0 a1 a2 a3 a4 a5 a6):=by
 intro a0 a1 a2 a3 a4 a5 a6 k
 unfold laws_szNode.f
 repeat' first
   |(with_reducible exact laws_szAttrS.mono _ _ _)
   |(with_reducible exact LeO.refl _)
   |(with_reducible exact LeO.none _)
   |(with_reducible refine LeO.ite ?_ ?_)
   |(with_reducible refine LeO.bind ?_ (fun _=>?_))
   |exact laws_szAttrS.mono _ _ _
   |exact LeO.none _
   |refine LeO.ite ?_ ?_
   |refine LeO.bind ?_ (fun _=>?_)
set_option maxHeartbeats 8000000 in
set_option maxRecDepth 100000 in
theorem laws_szNode.calls (k:Nat) (a0_0:Int) (a0_1:Int) (a0_2:ByteArray) (A0_3:Option Addr) (c0_3:Nat) (l0_3:List (S91)) (a0_4:ByteArray) (a0_5:Int) (a1:Int) (r:Int) (w:World) (hr0_3:Kd.C k91 w A0_3 l0_3.length l0_3) (hc0_3:l0_3.length≤c0_3) (h:laws_szNode.f k a0_0 a0_1 a0_2 l0_3 a0_4 a0_5 a1=some r) :
  Calls Tryz.prog 22 #[.agg #[.int .i64 a0_0,.int .i64 a0_1,.string a0_2,.slice A0_3 l0_3.length c0_3,.string a0_4,.int .i64 a0_5],.int .i64 a1] w fun e w'=>e=.returned (.int .i64 r)∧Below w.heap.size w w':=by
 have hu63:=Tryz.underlying63
 have HR0_3:=Aside0.mk hr0_3
 have HC0_3:=Aside0.mk hc0_3
 clear hr0_3 hc0_3
 have HB:=Aside0.mk (Below.refl w.heap.size w)
 have H:(if (wrap64 (a1 - (a0_2.size:Int)))<0 then (some (-1)) else ((laws_szAttrS.f k l0_3 (wrap64 (a1 - (a0_2.size:Int)))).bind fun t105=>(if t105<0 then (some (-1)) else (if (wrap64 (t105 - (a0_4.size:Int)))<0 then (some (-1)) else (some (wrap64 (t105 - (a0_4.size:Int))))))))=some r:=h
 clear h
 by_cases c3:(wrap64 (a1 - (a0_2.size:Int)))<0
 ·rw [if_pos c3] at H
  have c3b0:decide ((wrap64 (a1 - (a0_2.size:Int)))<0)=true:=decide_eq_true c3
  clear c3
  obtain rfl:=Option.some.inj H
  go_enter Tryz.func22,Tryz.ntmps22
  go_wp2_with (first|((with_reducible refine gate_dst (N:=2) rfl ?_);refine box_event ?hg (N:=2) ?hd (cs:=#[.int .i64 a0_0,.int .i64 a0_1,.string a0_2,.slice A0_3 l0_3.length c0_3,.string a0_4,.int .i64 a0_5]) (t:=63) ?hr ?_;(case hd=>rfl);(case hg=>rfl);(case hr=>first|(go_simp;done)|(go_simp;rfl));intro gb104 hg w4 hbox hb;have n0_:=Aside0.mk (below_step (by repeat (first|(with_reducible first|exact HB.out|apply below_alloc|apply pw_below_drewN|apply below_drew1)|exact HB.out)) hb);have n1_:=Aside0.mk (hbox);have n2_:=Aside0.mk ((by rw [hg];exact (below_size (by repeat (first|(with_reducible first|exact HB.out|apply below_alloc|apply pw_below_drewN|apply below_drew1)|exact HB.out))):w.heap.size≤gb104));have n3_:=Aside0.mk ((by rw [hg];exact (below_size (by repeat (first|(with_reducible first|exact HB.out|apply below_alloc|apply pw_below_drewN|apply below_drew1)|exact HB.out))):w.heap.size≤gb104));clear HB;have HB:=n0_;have BK104:=n1_;have GW104:=n2_;have GE104:=n3_;clear n0_ n1_ n2_ n3_;clear hb hbox hg;have hcz5_0:w4.cell? ⟨gb104,0,none⟩=some (.int .i64 a0_0):=(blk_cell BK104.out 0).trans rfl;have hcz5_1:w4.cell? ⟨gb104,1,none⟩=some (.int .i64 a0_1):=(blk_cell BK104.out 1).trans rfl;have hcz5_2:w4.cell? ⟨gb104,2,none⟩=some (.string a0_2):=(blk_cell BK104.out 2).trans rfl;have hcz5_3:w4.cell? ⟨gb104,3,none⟩=some (.slice A0_3 l0_3.length c0_3):=(blk_cell BK104.out 3).trans rfl;have hcz5_4:w4.cell? ⟨gb104,4,none⟩=some (.string a0_4):=(blk_cell BK104.out 4).trans rfl;have hcz5_5:w4.cell? ⟨gb104,5,none⟩=some (.int .i64 a0_5):=(blk_cell BK104.out 5).trans rfl;have hfz5_0:=blk_frozen BK104.out 0;have hfz5_1:=blk_frozen BK104.out 1;have hfz5_2:=blk_frozen BK104.out 2;have hfz5_3:=blk_frozen BK104.out 3;have hfz5_4:=blk_frozen BK104.out 4;have hfz5_5:=blk_frozen BK104.out 5))
  go_ret
  exact ⟨by first|rfl|(simp [errW_none,errW_some]<;>rfl)|(simp [*,errW_none,errW_some]<;>rfl),by repeat (first|(with_reducible first|exact HB.out|apply below_alloc|apply pw_below_drewN|apply below_drew1|refine below_set ?_ GE104.out)|exact HB.out)⟩
 ·rw [if_neg c3] at H
  have c3b0:decide ((wrap64 (a1 - (a0_2.size:Int)))<0)=false:=decide_eq_false c3
  clear c3
  replace H:=Option.bind_eq_some_iff.mp H
  obtain ⟨t105,A60,H⟩:=H
  replace H:(if t105<0 then (some (-1)) else (if (wrap64 (t105 - (a0_4.size:Int)))<0 then (some (-1)) else (some (wrap64 (t105 - (a0_4.size:Int))))))=some r:=H
  have A6:=Aside0.mk A60
  clear A60
  by_cases c7:t105<0
  ·rw [if_pos c7] at H
   have c7b0:decide (t105<0)=true:=decide_eq_true c7
   clear c7
   obtain rfl:=Option.some.inj H
   go_enter Tryz.func22,Tryz.ntmps22
   go_wp2_with (first|((with_reducible refine gate_dst (N:=2) rfl ?_);refine box_event ?hg (N:=2) ?hd (cs:=#[.int .i64 a0_0,.int .i64 a0_1,.string a0_2,.slice A0_3 l0_3.length c0_3,.string a0_4,.int .i64 a0_5]) (t:=63) ?hr ?_;(case hd=>rfl);(case hg=>rfl);(case hr=>first|(go_simp;done)|(go_simp;rfl));intro gb104 hg w8 hbox hb;have n0_:=Aside0.mk (below_step (by repeat (first|(with_reducible first|exact HB.out|apply below_alloc|apply pw_below_drewN|apply below_drew1)|exact HB.out)) hb);have n1_:=Aside0.mk (hbox);have n2_:=Aside0.mk ((by rw [hg];exact (below_size (by repeat (first|(with_reducible first|exact HB.out|apply below_alloc|apply pw_below_drewN|apply below_drew1)|exact HB.out))):w.heap.size≤gb104));have n3_:=Aside0.mk ((by rw [hg];exact (below_size (by repeat (first|(with_reducible first|exact HB.out|apply below_alloc|apply pw_below_drewN|apply below_drew1)|exact HB.out))):w.heap.size≤gb104));clear HB;have HB:=n0_;have BK104:=n1_;have GW104:=n2_;have GE104:=n3_;clear n0_ n1_ n2_ n3_;clear hb hbox hg;have hcz9_0:w8.cell? ⟨gb104,0,none⟩=some (.int .i64 a0_0):=(blk_cell BK104.out 0).trans rfl;have hcz9_1:w8.cell? ⟨gb104,1,none⟩=some (.int .i64 a0_1):=(blk_cell BK104.out 1).trans rfl;have hcz9_2:w8.cell? ⟨gb104,2,none⟩=some (.string a0_2):=(blk_cell BK104.out 2).trans rfl;have hcz9_3:w8.cell? ⟨gb104,3,none⟩=some (.slice A0_3 l0_3.length c0_3):=(blk_cell BK104.out 3).trans rfl;have hcz9_4:w8.cell? ⟨gb104,4,none⟩=some (.string a0_4):=(blk_cell BK104.out 4).trans rfl;have hcz9_5:w8.cell? ⟨gb104,5,none⟩=some (.int .i64 a0_5):=(blk_cell BK104.out 5).trans rfl;have hfz9_0:=blk_frozen BK104.out 0;have hfz9_1:=blk_frozen BK104.out 1;have hfz9_2:=blk_frozen BK104.out 2;have hfz9_3:=blk_frozen BK104.out 3;have hfz9_4:=blk_frozen BK104.out 4;have hfz9_5:=blk_frozen BK104.out 5)|((with_reducible refine gate_callee (f:=31) rfl ?_);refine goesL_ (some 15) rfl rfl Tryz.func31 (by kernel_rfl) rfl #[.slice A0_3 l0_3.length c0_3,.int .i64 (wrap64 (a1 - (a0_2.size:Int)))] rfl (by (try simp only [List.map_toArray,List.map_cons,List.map_nil]);first|done|rfl|(simp only [List.length_drop,List.length_take];rfl)) ?_;(with_reducible refine (laws_szAttrS.calls k _ _ l0_3 (wrap64 (a1 - (a0_2.size:Int))) t105 _ ?side1 ?side2 A6.out).mono ?_);(case side1=>repeat (first|exact (Kd.C_below HR0_3.out HB.out)|(with_reducible refine Kd.C_alloc ?_ _)|(with_reducible refine Kd.C_drewN ?_ _)|(with_reducible refine Kd.C_drew ?_)));(case side2=>exact HC0_3.out);rintro e w10 ⟨rfl,hb⟩;refine ⟨_,rfl,?_⟩;have n0_:=Aside0.mk (blk_below (g:=gb104) (o:=.cells #[.int .i64 a0_0,.int .i64 a0_1,.string a0_2,.slice A0_3 l0_3.length c0_3,.string a0_4,.int .i64 a0_5] 63 (0,0)) (by (with_reducible repeat (first|refine blk_drewN ?_ _|refine blk_drew ?_|refine blk_alloc ?_ _));exact BK104.out) hb);have n1_:=Aside0.mk (below_step (by repeat (first|(with_reducible first|exact HB.out|apply below_alloc|apply pw_below_drewN|apply below_drew1|refine below_set ?_ GE104.out)|exact HB.out)) hb);clear BK104;clear HB;have BK104:=n0_;have HB:=n1_;clear n0_ n1_;(try clear hb);(try clear hb2);(try clear hk);(try clear hi)))
   go_ret
   exact ⟨by first|rfl|(simp [errW_none,errW_some]<;>rfl)|(simp [*,errW_none,errW_some]<;>rfl),by repeat (first|(with_reducible first|exact HB.out|apply below_alloc|apply pw_below_drewN|apply below_drew1|refine below_set ?_ GE104.out)|exact HB.out)⟩
  ·rw [if_neg c7] at H
   have c7b0:decide (t105<0)=false:=decide_eq_false c7
   clear c7
   by_cases c11:(wrap64 (t105 - (a0_4.size:Int)))<0
   ·rw [if_pos c11] at H
    have c11b0:decide ((wrap64 (t105 - (a0_4.size:Int)))<0)=true:=decide_eq_true c11
    clear c11
    obtain rfl:=Option.some.inj H
    go_enter Tryz.func22,Tryz.ntmps22
    go_wp2_with (first|((with_reducible refine gate_dst (N:=2) rfl ?_);refine box_event ?hg (N:=2) ?hd (cs:=#[.int .i64 a0_0,.int .i64 a0_1,.string a0_2,.slice A0_3 l0_3.length c0_3,.string a0_4,.int .i64 a0_5]) (t:=63) ?hr ?_;(case hd=>rfl);(case hg=>rfl);(case hr=>first|(go_simp;done)|(go_simp;rfl));intro gb104 hg w12 hbox hb;have n0_:=Aside0.mk (below_step (by repeat (first|(with_reducible first|exact HB.out|apply below_alloc|apply pw_below_drewN|apply below_drew1)|exact HB.out)) hb);have n1_:=Aside0.mk (hbox);have n2_:=Aside0.mk ((by rw [hg];exact (below_size (by repeat (first|(with_reducible first|exact HB.out|apply below_alloc|apply pw_below_drewN|apply below_drew1)|exact HB.out))):w.heap.size≤gb104));have n3_:=Aside0.mk ((by rw [hg];exact (below_size (by repeat (first|(with_reducible first|exact HB.out|apply below_alloc|apply pw_below_drewN|apply below_drew1)|exact HB.out))):w.heap.size≤gb104));clear HB;have HB:=n0_;have BK104:=n1_;have GW104:=n2_;have GE104:=n3_;clear n0_ n1_ n2_ n3_;clear hb hbox hg;have hcz13_0:w12.cell? ⟨gb104,0,none⟩=some (.int .i64 a0_0):=(blk_cell BK104.out 0).trans rfl;have hcz13_1:w12.cell? ⟨gb104,1,none⟩=some (.int .i64 a0_1):=(blk_cell BK104.out 1).trans rfl;have hcz13_2:w12.cell? ⟨gb104,2,none⟩=some (.string a0_2):=(blk_cell BK104.out 2).trans rfl;have hcz13_3:w12.cell? ⟨gb104,3,none⟩=some (.slice A0_3 l0_3.length c0_3):=(blk_cell BK104.out 3).trans rfl;have hcz13_4:w12.cell? ⟨gb104,4,none⟩=some (.string a0_4):=(blk_cell BK104.out 4).trans rfl;have hcz13_5:w12.cell? ⟨gb104,5,none⟩=some (.int .i64 a0_5):=(blk_cell BK104.out 5).trans rfl;have hfz13_0:=blk_frozen BK104.out 0;have hfz13_1:=blk_frozen BK104.out 1;have hfz13_2:=blk_frozen BK104.out 2;have hfz13_3:=blk_frozen BK104.out 3;have hfz13_4:=blk_frozen BK104.out 4;have hfz13_5:=blk_frozen BK104.out 5)|((with_reducible refine gate_callee (f:=31) rfl ?_);refine goesL_ (some 15) rfl rfl Tryz.func31 (by kernel_rfl) rfl #[.slice A0_3 l0_3.length c0_3,.int .i64 (wrap64 (a1 - (a0_2.size:Int)))] rfl (by (try simp only [List.map_toArray,List.map_cons,List.map_nil]);first|done|rfl|(simp only [List.length_drop,List.length_take];rfl)) ?_;(with_reducible refine (laws_szAttrS.calls k _ _ l0_3 (wrap64 (a1 - (a0_2.size:Int))) t105 _ ?side1 ?side2 A6.out).mono ?_);(case side1=>repeat (first|exact (Kd.C_below HR0_3.out HB.out)|(with_reducible refine Kd.C_alloc ?_ _)|(with_reducible refine Kd.C_drewN ?_ _)|(with_reducible refine Kd.C_drew ?_)));(case side2=>exact HC0_3.out);rintro e w14 ⟨rfl,hb⟩;refine ⟨_,rfl,?_⟩;have n0_:=Aside0.mk (blk_below (g:=gb104) (o:=.cells #[.int .i64 a0_0,.int .i64 a0_1,.string a0_2,.slice A0_3 l0_3.length c0_3,.string a0_4,.int .i64 a0_5] 63 (0,0)) (by (with_reducible repeat (first|refine blk_drewN ?_ _|refine blk_drew ?_|refine blk_alloc ?_ _));exact BK104.out) hb);have n1_:=Aside0.mk (below_step (by repeat (first|(with_reducible first|exact HB.out|apply below_alloc|apply pw_below_drewN|apply below_drew1|refine below_set ?_ GE104.out)|exact HB.out)) hb);clear BK104;clear HB;have BK104:=n0_;have HB:=n1_;clear n0_ n1_;(try clear hb);(try clear hb2);(try clear hk);(try clear hi);have hcz15_0:w14.cell? ⟨gb104,0,none⟩=some (.int .i64 a0_0):=(blk_cell BK104.out 0).trans rfl;have hcz15_1:w14.cell? ⟨gb104,1,none⟩=some (.int .i64 a0_1):=(blk_cell BK104.out 1).trans rfl;have hcz15_2:w14.cell? ⟨gb104,2,none⟩=some (.string a0_2):=(blk_cell BK104.out 2).trans rfl;have hcz15_3:w14.cell? ⟨gb104,3,none⟩=some (.slice A0_3 l0_3.length c0_3):=(blk_cell BK104.out 3).trans rfl;have hcz15_4:w14.cell? ⟨gb104,4,none⟩=some (.string a0_4):=(blk_cell BK104.out 4).trans rfl;have hcz15_5:w14.cell? ⟨gb104,5,none⟩=some (.int .i64 a0_5):=(blk_cell BK104.out 5).trans rfl;have hfz15_0:=blk_frozen BK104.out 0;have hfz15_1:=blk_frozen BK104.out 1;have hfz15_2:=blk_frozen BK104.out 2;have hfz15_3:=blk_frozen BK104.out 3;have hfz15_4:=blk_frozen BK104.out 4;have hfz15_5:=blk_frozen BK104.out 5))
    go_ret
    exact ⟨by first|rfl|(simp [errW_none,errW_some]<;>rfl)|(simp [*,errW_none,errW_some]<;>rfl),by repeat (first|(with_reducible first|exact HB.out|apply below_alloc|apply pw_below_drewN|apply below_drew1|refine below_set ?_ GE104.out)|exact HB.out)⟩
   ·rw [if_neg c11] at H
    have c11b0:decide ((wrap64 (t105 - (a0_4.size:Int)))<0)=false:=decide_eq_false c11
    clear c11
    obtain rfl:=Option.some.inj H
    go_enter Tryz.func22,Tryz.ntmps22
    go_wp2_with (first|((with_reducible refine gate_dst (N:=2) rfl ?_);refine box_event ?hg (N:=2) ?hd (cs:=#[.int .i64 a0_0,.int .i64 a0_1,.string a0_2,.slice A0_3 l0_3.length c0_3,.string a0_4,.int .i64 a0_5]) (t:=63) ?hr ?_;(case hd=>rfl);(case hg=>rfl);(case hr=>first|(go_simp;done)|(go_simp;rfl));intro gb104 hg w16 hbox hb;have n0_:=Aside0.mk (below_step (by repeat (first|(with_reducible first|exact HB.out|apply below_alloc|apply pw_below_drewN|apply below_drew1)|exact HB.out)) hb);have n1_:=Aside0.mk (hbox);have n2_:=Aside0.mk ((by rw [hg];exact (below_size (by repeat (first|(with_reducible first|exact HB.out|apply below_alloc|apply pw_below_drewN|apply below_drew1)|exact HB.out))):w.heap.size≤gb104));have n3_:=Aside0.mk ((by rw [hg];exact (below_size (by repeat (first|(with_reducible first|exact HB.out|apply below_alloc|apply pw_below_drewN|apply below_drew1)|exact HB.out))):w.heap.size≤gb104));clear HB;have HB:=n0_;have BK104:=n1_;have GW104:=n2_;have GE104:=n3_;clear n0_ n1_ n2_ n3_;clear hb hbox hg;have hcz17_0:w16.cell? ⟨gb104,0,none⟩=some (.int .i64 a0_0):=(blk_cell BK104.out 0).trans rfl;have hcz17_1:w16.cell? ⟨gb104,1,none⟩=some (.int .i64 a0_1):=(blk_cell BK104.out 1).trans rfl;have hcz17_2:w16.cell? ⟨gb104,2,none⟩=some (.string a0_2):=(blk_cell BK104.out 2).trans rfl;have hcz17_3:w16.cell? ⟨gb104,3,none⟩=some (.slice A0_3 l0_3.length c0_3):=(blk_cell BK104.out 3).trans rfl;have hcz17_4:w16.cell? ⟨gb104,4,none⟩=some (.string a0_4):=(blk_cell BK104.out 4).trans rfl;have hcz17_5:w16.cell? ⟨gb104,5,none⟩=some (.int .i64 a0_5):=(blk_cell BK104.out 5).trans rfl;have hfz17_0:=blk_frozen BK104.out 0;have hfz17_1:=blk_frozen BK104.out 1;have hfz17_2:=blk_frozen BK104.out 2;have hfz17_3:=blk_frozen BK104.out 3;have hfz17_4:=blk_frozen BK104.out 4;have hfz17_5:=blk_frozen BK104.out 5)|((with_reducible refine gate_callee (f:=31) rfl ?_);refine goesL_ (some 15) rfl rfl Tryz.func31 (by kernel_rfl) rfl #[.slice A0_3 l0_3.length c0_3,.int .i64 (wrap64 (a1 - (a0_2.size:Int)))] rfl (by (try simp only [List.map_toArray,List.map_cons,List.map_nil]);first|done|rfl|(simp only [List.length_drop,List.length_take];rfl)) ?_;(with_reducible refine (laws_szAttrS.calls k _ _ l0_3 (wrap64 (a1 - (a0_2.size:Int))) t105 _ ?side1 ?side2 A6.out).mono ?_);(case side1=>repeat (first|exact (Kd.C_below HR0_3.out HB.out)|(with_reducible refine Kd.C_alloc ?_ _)|(with_reducible refine Kd.C_drewN ?_ _)|(with_reducible refine Kd.C_drew ?_)));(case side2=>exact HC0_3.out);rintro e w18 ⟨rfl,hb⟩;refine ⟨_,rfl,?_⟩;have n0_:=Aside0.mk (blk_below (g:=gb104) (o:=.cells #[.int .i64 a0_0,.int .i64 a0_1,.string a0_2,.slice A0_3 l0_3.length c0_3,.string a0_4,.int .i64 a0_5] 63 (0,0)) (by (with_reducible repeat (first|refine blk_drewN ?_ _|refine blk_drew ?_|refine blk_alloc ?_ _));exact BK104.out) hb);have n1_:=Aside0.mk (below_step (by repeat (first|(with_reducible first|exact HB.out|apply below_alloc|apply pw_below_drewN|apply below_drew1|refine below_set ?_ GE104.out)|exact HB.out)) hb);clear BK104;clear HB;have BK104:=n0_;have HB:=n1_;clear n0_ n1_;(try clear hb);(try clear hb2);(try clear hk);(try clear hi);have hcz19_0:w18.cell? ⟨gb104,0,none⟩=some (.int .i64 a0_0):=(blk_cell BK104.out 0).trans rfl;have hcz19_1:w18.cell? ⟨gb104,1,none⟩=some (.int .i64 a0_1):=(blk_cell BK104.out 1).trans rfl;have hcz19_2:w18.cell? ⟨gb104,2,none⟩=some (.string a0_2):=(blk_cell BK104.out 2).trans rfl;have hcz19_3:w18.cell? ⟨gb104,3,none⟩=some (.slice A0_3 l0_3.length c0_3):=(blk_cell BK104.out 3).trans rfl;have hcz19_4:w18.cell? ⟨gb104,4,none⟩=some (.string a0_4):=(blk_cell BK104.out 4).trans rfl;have hcz19_5:w18.cell? ⟨gb104,5,none⟩=some (.int .i64 a0_5):=(blk_cell BK104.out 5).trans rfl;have hfz19_0:=blk_frozen BK104.out 0;have hfz19_1:=blk_frozen BK104.out 1;have hfz19_2:=blk_frozen BK104.out 2;have hfz19_3:=blk_frozen BK104.out 3;have hfz19_4:=blk_frozen BK104.out 4;have hfz19_5:=blk_frozen BK104.out 5))
    go_ret
    exact ⟨by first|rfl|(simp [errW_none,errW_some]<;>rfl)|(simp [*,errW_none,errW_some]<;>rfl),by repeat (first|(with_reducible first|exact HB.out|apply below_alloc|apply pw_below_drewN|apply below_drew1|refine below_set ?_ GE104.out)|exact HB.out)⟩
/-! ### laws_szNodeS: function 12 -/
def laws_szNodeS.l0:Nat→List (S63)→Int→Int→Option (Int)
 |0,_,_,_=>none
 |k+1,x0,x1,x5=>if x5<(x0.length:Int) then (if 0≤x5 then ((laws_szNode.f k ((rd_T63 x0 x5).f0) ((rd_T63 x0 x5).f1) ((rd_T63 x0 x5).f2) ((rd_T63 x0 x5).f3) ((rd_T63 x0 x5).f4) ((rd_T63 x0 x5).f5) x1).bind fun t107=>(if t107<0 then (some (-1)) else (laws_szNodeS.l0 k x0 t107 (wrap64 (x5+1))))) else (none)) else (some x1)
def laws_szNodeS.f (k:Nat) (l0:List (S63)) (a1:Int):Option (Int):=if (wrap64 (a1 - (l0.length:Int)))<0 then (some (-1)) else (laws_szNodeS.l0 k l0 (wrap64 (a1 - (l0.length:Int))) 0)
theorem laws_szNodeS.mono_l:∀ k,(∀ y0 y1 y2,LeO (laws_szNodeS.l0 k y0 y1 y2) (laws_szNodeS.l0 (k+1) y0 y1 y2))
 |0=>fun _ _ _ r h=>by simp [laws_szNodeS.l0] at h
 |k+1=>by
  have ih0:=laws_szNodeS.mono_l k
  ·intro y0 y1 y2
   unfold laws_szNodeS.l0
   repeat' first
   |(with_reducible exact ih0 _ _ _)
   |(with_reducible exact laws_szNode.mono _ _ _ _ _ _ _ _)
   |(with_reducible exact LeO.refl _)
   |(with_reducible exact LeO.none _)
   |(with_reducible refine LeO.ite ?_ ?_)
   |(with_reducible refine LeO.bind ?_ (fun _=>?_))
   |exact ih0 _ _ _
   |exact laws_szNode.mono _ _ _ _ _ _ _ _
   |exact LeO.none _
   |refine LeO.ite ?_ ?_
   |refine LeO.bind ?_ (fun _=>?_)
theorem laws_szNodeS.mono:∀ a0 a1 k,LeO (laws_szNodeS.f k a0 a1) (laws_szNodeS.f (k+1) a0 a1):=by
 intro a0 a1 k
 have ih0:=laws_szNodeS.mono_l k
 unfold laws_szNodeS.f
 repeat' first
   |(with_reducible exact ih0 _ _ _)
   |(with_reducible exact laws_szNode.mono _ _ _ _ _ _ _ _)
   |(with_reducible exact LeO.refl _)
   |(with_reducible exact LeO.none _)
   |(with_reducible refine LeO.ite ?_ ?_)
   |(with_reducible refine LeO.bind ?_ (fun _=>?_))
   |exact ih0 _ _ _
   |exact laws_szNode.mono _ _ _ _ _ _ _ _
   |exact LeO.none _
   |refine LeO.ite ?_ ?_
   |refine LeO.bind ?_ (fun _=>?_)
set_option maxHeartbeats 8000000 in
set_option maxRecDepth 100000 in
theorem laws_szNodeS.calls (k:Nat) (A0:Option Addr) (c0:Nat) (l0:List (S63)) (a1:Int) (r:Int) (w:World) (hr0:Kd.C k63 w A0 l0.length l0) (hc0:l0.length≤c0) (h:laws_szNodeS.f k l0 a1=some r) :
  Calls Tryz.prog 12 #[.slice A0 l0.length c0,.int .i64 a1] w fun e w'=>e=.returned (.int .i64 r)∧Below w.heap.size w w':=by
 have hu63:=Tryz.underlying63
 have HR0:=Aside0.mk hr0
 have HC0:=Aside0.mk hc0
 clear hr0 hc0
 have HB:=Aside0.mk (Below.refl w.heap.size w)
 have H:(if (wrap64 (a1 - (l0.length:Int)))<0 then (some (-1)) else (laws_szNodeS.l0 k l0 (wrap64 (a1 - (l0.length:Int))) 0))=some r:=h
 clear h
 by_cases c3:(wrap64 (a1 - (l0.length:Int)))<0
 ·rw [if_pos c3] at H
  have c3b0:decide ((wrap64 (a1 - (l0.length:Int)))<0)=true:=decide_eq_true c3
  clear c3
  obtain rfl:=Option.some.inj H
  go_enter Tryz.func12,Tryz.ntmps12
  go_wp2
  go_ret
  exact ⟨by first|rfl|(simp [errW_none,errW_some]<;>rfl)|(simp [*,errW_none,errW_some]<;>rfl),by repeat (first|(with_reducible first|exact HB.out|apply below_alloc|apply pw_below_drewN|apply below_drew1)|exact HB.out)⟩
 ·rw [if_neg c3] at H
  have c3b0:decide ((wrap64 (a1 - (l0.length:Int)))<0)=false:=decide_eq_false c3
  clear c3
  have H':=Aside0.mk H
  clear H
  go_enter Tryz.func12,Tryz.ntmps12
  go_wp2
  go_loopg [1,5] k (fun kq v1 v5 w'=>∃ (x1_1:Int) (x5_1:Int),v1=.int .i64 x1_1∧v5=.int .i64 x5_1∧Aside0 (laws_szNodeS.l0 kq l0 x1_1 x5_1=some r)∧Aside0 (kq≤k)∧Aside0 (Below w.heap.size w w'))
  case atStart=>exact ⟨(wrap64 (a1 - (l0.length:Int))),(0),(by first|rfl|(simp;done)|(simp [*];done)),(by first|rfl|(simp;done)|(simp [*];done)),H',⟨Nat.le_refl _⟩,⟨by repeat (first|(with_reducible first|exact HB.out|apply below_alloc|apply pw_below_drewN|apply below_drew1)|exact HB.out)⟩⟩
  case round=>
   clear H'
   try clear c1
   try clear p2
   try clear c3
   try clear c3b0
   obtain ⟨x1_1,x5_1,rfl,rfl,HA,HK1,HB⟩:=hrel
   cases gk with
   |zero=>exact absurd HA.out (by simp [laws_szNodeS.l0])
   |succ k1=>
    have H:=HA.out
    clear HA
    simp only [laws_szNodeS.l0] at H
    by_cases c4:x5_1<(l0.length:Int)
    ·rw [if_pos c4] at H
     have c4b0:decide (x5_1<(l0.length:Int))=true:=decide_eq_true c4
     clear c4
     by_cases c5:0≤x5_1
     ·rw [if_pos c5] at H
      have c5b0:decide (0≤x5_1)=true:=decide_eq_true c5
      clear c5
      replace H:=Option.bind_eq_some_iff.mp H
      obtain ⟨t107,A60,H⟩:=H
      replace H:(if t107<0 then (some (-1)) else (laws_szNodeS.l0 k1 l0 t107 (wrap64 (x5_1+1))))=some r:=H
      have A6:=Aside0.mk A60
      clear A60
      by_cases c7:t107<0
      ·rw [if_pos c7] at H
       have c7b0:decide (t107<0)=true:=decide_eq_true c7
       clear c7
       obtain rfl:=Option.some.inj H
       have p106:0≤(x5_1:Int):=of_decide_eq_true (by first|(with_reducible assumption)|assumption)
       have q106:x5_1<(l0.length:Int):=of_decide_eq_true (by first|(with_reducible assumption)|assumption)
       obtain ⟨ad106,A106_3,c106_3,e106,hx106_0,hx106_1,hx106_2,hx106_3,hx106_4,hx106_5,hl106_3,hi106_3⟩:=at_T63 HR0.out x5_1 p106 q106
       cases e106
       replace hx106_0:=(HB.out.cell (World.block_lt_of_cell? w _ hx106_0)).trans hx106_0
       replace hx106_1:=(HB.out.cell (World.block_lt_of_cell? w _ hx106_1)).trans hx106_1
       replace hx106_2:=(HB.out.cell (World.block_lt_of_cell? w _ hx106_2)).trans hx106_2
       replace hx106_3:=(HB.out.cell (World.block_lt_of_cell? w _ hx106_3)).trans hx106_3
       replace hx106_4:=(HB.out.cell (World.block_lt_of_cell? w _ hx106_4)).trans hx106_4
       replace hx106_5:=(HB.out.cell (World.block_lt_of_cell? w _ hx106_5)).trans hx106_5
       have HR106_3:=Aside0.mk hi106_3
       have HC106_3:=Aside0.mk hl106_3
       clear hi106_3 hl106_3
       replace p106:=eq_true p106
       replace q106:=eq_true q106
       go_wp2_with (first|((with_reducible refine gate_callee (f:=22) rfl ?_);refine goesL_ (some 23) rfl rfl Tryz.func22 (by kernel_rfl) rfl #[.agg #[.int .i64 ((rd_T63 l0 x5_1).f0),.int .i64 ((rd_T63 l0 x5_1).f1),.string ((rd_T63 l0 x5_1).f2),.slice A106_3 ((rd_T63 l0 x5_1).f3).length c106_3,.string ((rd_T63 l0 x5_1).f4),.int .i64 ((rd_T63 l0 x5_1).f5)],.int .i64 x1_1] rfl (by (try simp only [List.map_toArray,List.map_cons,List.map_nil]);first|done|rfl|(simp only [List.length_drop,List.length_take];rfl)) ?_;(with_reducible refine (laws_szNode.calls k1 ((rd_T63 l0 x5_1).f0) ((rd_T63 l0 x5_1).f1) ((rd_T63 l0 x5_1).f2) _ _ ((rd_T63 l0 x5_1).f3) ((rd_T63 l0 x5_1).f4) ((rd_T63 l0 x5_1).f5) x1_1 t107 _ ?side1 ?side2 A6.out).mono ?_);(case side1=>repeat (first|exact (Kd.C_below HR106_3.out HB.out)|(with_reducible refine Kd.C_alloc ?_ _)|(with_reducible refine Kd.C_drewN ?_ _)|(with_reducible refine Kd.C_drew ?_)));(case side2=>exact HC106_3.out);rintro e w8 ⟨rfl,hb⟩;refine ⟨_,rfl,?_⟩;have n0_:=Aside0.mk (below_step (by repeat (first|(with_reducible first|exact HB.out|apply below_alloc|apply pw_below_drewN|apply below_drew1)|exact HB.out)) hb);clear HB;have HB:=n0_;clear n0_;(try clear hb);(try clear hb2);(try clear hk);(try clear hi)))
       go_ret
       exact ⟨by first|rfl|(simp [errW_none,errW_some]<;>rfl)|(simp [*,errW_none,errW_some]<;>rfl),by repeat (first|(with_reducible first|exact HB.out|apply below_alloc|apply pw_below_drewN|apply below_drew1)|exact HB.out)⟩
      ·rw [if_neg c7] at H
       have c7b0:decide (t107<0)=false:=decide_eq_false c7
       clear c7
       have H':=Aside0.mk H
       clear H
       have p106:0≤(x5_1:Int):=of_decide_eq_true (by first|(with_reducible assumption)|assumption)
       have q106:x5_1<(l0.length:Int):=of_decide_eq_true (by first|(with_reducible assumption)|assumption)
       obtain ⟨ad106,A106_3,c106_3,e106,hx106_0,hx106_1,hx106_2,hx106_3,hx106_4,hx106_5,hl106_3,hi106_3⟩:=at_T63 HR0.out x5_1 p106 q106
       cases e106
       replace hx106_0:=(HB.out.cell (World.block_lt_of_cell? w _ hx106_0)).trans hx106_0
       replace hx106_1:=(HB.out.cell (World.block_lt_of_cell? w _ hx106_1)).trans hx106_1
       replace hx106_2:=(HB.out.cell (World.block_lt_of_cell? w _ hx106_2)).trans hx106_2
       replace hx106_3:=(HB.out.cell (World.block_lt_of_cell? w _ hx106_3)).trans hx106_3
       replace hx106_4:=(HB.out.cell (World.block_lt_of_cell? w _ hx106_4)).trans hx106_4
       replace hx106_5:=(HB.out.cell (World.block_lt_of_cell? w _ hx106_5)).trans hx106_5
       have HR106_3:=Aside0.mk hi106_3
       have HC106_3:=Aside0.mk hl106_3
       clear hi106_3 hl106_3
       replace p106:=eq_true p106
       replace q106:=eq_true q106
       go_wp2_with (first|((with_reducible refine gate_callee (f:=22) rfl ?_);refine goesL_ (some 23) rfl rfl Tryz.func22 (by kernel_rfl) rfl #[.agg #[.int .i64 ((rd_T63 l0 x5_1).f0),.int .i64 ((rd_T63 l0 x5_1).f1),.string ((rd_T63 l0 x5_1).f2),.slice A106_3 ((rd_T63 l0 x5_1).f3).length c106_3,.string ((rd_T63 l0 x5_1).f4),.int .i64 ((rd_T63 l0 x5_1).f5)],.int .i64 x1_1] rfl (by (try simp only [List.map_toArray,List.map_cons,List.map_nil]);first|done|rfl|(simp only [List.length_drop,List.length_take];rfl)) ?_;(with_reducible refine (laws_szNode.calls k1 ((rd_T63 l0 x5_1).f0) ((rd_T63 l0 x5_1).f1) ((rd_T63 l0 x5_1).f2) _ _ ((rd_T63 l0 x5_1).f3) ((rd_T63 l0 x5_1).f4) ((rd_T63 l0 x5_1).f5) x1_1 t107 _ ?side1 ?side2 A6.out).mono ?_);(case side1=>repeat (first|exact (Kd.C_below HR106_3.out HB.out)|(with_reducible refine Kd.C_alloc ?_ _)|(with_reducible refine Kd.C_drewN ?_ _)|(with_reducible refine Kd.C_drew ?_)));(case side2=>exact HC106_3.out);rintro e w9 ⟨rfl,hb⟩;refine ⟨_,rfl,?_⟩;have n0_:=Aside0.mk (below_step (by repeat (first|(with_reducible first|exact HB.out|apply below_alloc|apply pw_below_drewN|apply below_drew1)|exact HB.out)) hb);clear HB;have HB:=n0_;clear n0_;(try clear hb);(try clear hb2);(try clear hk);(try clear hi)))
       go_roundg k1
       case measure=>have:=HK1.out;omega
       case rel=>exact ⟨(t107),(wrap64 (x5_1+1)),(by first|rfl|(simp;done)|(simp [*];done)),(by first|rfl|(simp;done)|(simp [*];done)),H',⟨by have:=HK1.out;omega⟩,⟨by repeat (first|(with_reducible first|exact HB.out|apply below_alloc|apply pw_below_drewN|apply below_drew1)|exact HB.out)⟩⟩
     ·rw [if_neg c5] at H
      exact absurd H (by simp)
    ·rw [if_neg c4] at H
     have c4b0:decide (x5_1<(l0.length:Int))=false:=decide_eq_false c4
     clear c4
     obtain rfl:=Option.some.inj H
     go_wp2
     go_ret
     exact ⟨by first|rfl|(simp [errW_none,errW_some]<;>rfl)|(simp [*,errW_none,errW_some]<;>rfl),by repeat (first|(with_reducible first|exact HB.out|apply below_alloc|apply pw_below_drewN|apply below_drew1)|exact HB.out)⟩
/-! ### laws_szTree: function 5 -/
def laws_szTree.f (k:Nat) (l0_0:List (S63)) (a1:Int):Option (Int):=(laws_szNodeS.f k l0_0 a1).bind fun t109=>(if t109<0 then (some (-1)) else (some t109))
theorem laws_szTree.mono:∀ a0 a1 k,LeO (laws_szTree.f k a0 a1) (laws_szTree.f (k+1) a0 a1):=by
 intro a0 a1 k
 unfold laws_szTree.f
 repeat' first
   |(with_reducible exact laws_szNodeS.mono _ _ _)
   |(with_reducible exact LeO.refl _)
   |(with_reducible exact LeO.none _)
   |(with_reducible refine LeO.ite ?_ ?_)
   |(with_reducible refine LeO.bind ?_ (fun _=>?_))
   |exact laws_szNodeS.mono _ _ _
   |exact LeO.none _
   |refine LeO.ite ?_ ?_
   |refine LeO.bind ?_ (fun _=>?_)
set_option maxHeartbeats 8000000 in
set_option maxRecDepth 100000 in
theorem laws_szTree.calls (k:Nat) (A0_0:Option Addr) (c0_0:Nat) (l0_0:List (S63)) (a1:Int) (r:Int) (w:World) (hr0_0:Kd.C k63 w A0_0 l0_0.length l0_0) (hc0_0:l0_0.length≤c0_0) (h:laws_szTree.f k l0_0 a1=some r) :
  Calls Tryz.prog 5 #[.agg #[.slice A0_0 l0_0.length c0_0],.int .i64 a1] w fun e w'=>e=.returned (.int .i64 r)∧Below w.heap.size w w':=by
 have hu24:=Tryz.underlying24
 have HR0_0:=Aside0.mk hr0_0
 have HC0_0:=Aside0.mk hc0_0
 clear hr0_0 hc0_0
 have HB:=Aside0.mk (Below.refl w.heap.size w)
 have H:((laws_szNodeS.f k l0_0 a1).bind fun t109=>(if t109<0 then (some (-1)) else (some t109)))=some r:=h
 clear h
 replace H:=Option.bind_eq_some_iff.mp H
 obtain ⟨t109,A30,H⟩:=H
 replace H:(if t109<0 then (some (-1)) else (some t109))=some r:=H
 have A3:=Aside0.mk A30
 clear A30
 by_cases c4:t109<0
 ·rw [if_pos c4] at H
  have c4b0:decide (t109<0)=true:=decide_eq_true c4
  clear c4
  obtain rfl:=Option.some.inj H
  go_enter Tryz.func5,Tryz.ntmps5
  go_wp2_with (first|((with_reducible refine gate_dst (N:=2) rfl ?_);refine box_event ?hg (N:=2) ?hd (cs:=#[.slice A0_0 l0_0.length c0_0]) (t:=24) ?hr ?_;(case hd=>rfl);(case hg=>rfl);(case hr=>first|(go_simp;done)|(go_simp;rfl));intro gb108 hg w5 hbox hb;have n0_:=Aside0.mk (below_step (by repeat (first|(with_reducible first|exact HB.out|apply below_alloc|apply pw_below_drewN|apply below_drew1)|exact HB.out)) hb);have n1_:=Aside0.mk (hbox);have n2_:=Aside0.mk ((by rw [hg];exact (below_size (by repeat (first|(with_reducible first|exact HB.out|apply below_alloc|apply pw_below_drewN|apply below_drew1)|exact HB.out))):w.heap.size≤gb108));have n3_:=Aside0.mk ((by rw [hg];exact (below_size (by repeat (first|(with_reducible first|exact HB.out|apply below_alloc|apply pw_below_drewN|apply below_drew1)|exact HB.out))):w.heap.size≤gb108));clear HB;have HB:=n0_;have BK108:=n1_;have GW108:=n2_;have GE108:=n3_;clear n0_ n1_ n2_ n3_;clear hb hbox hg;have hcz6_0:w5.cell? ⟨gb108,0,none⟩=some (.slice A0_0 l0_0.length c0_0):=(blk_cell BK108.out 0).trans rfl;have hfz6_0:=blk_frozen BK108.out 0)|((with_reducible refine gate_callee (f:=12) rfl ?_);refine goesL_ (some 8) rfl rfl Tryz.func12 (by kernel_rfl) rfl #[.slice A0_0 l0_0.length c0_0,.int .i64 a1] rfl (by (try simp only [List.map_toArray,List.map_cons,List.map_nil]);first|done|rfl|(simp only [List.length_drop,List.length_take];rfl)) ?_;(with_reducible refine (laws_szNodeS.calls k _ _ l0_0 a1 t109 _ ?side1 ?side2 A3.out).mono ?_);(case side1=>repeat (first|exact (Kd.C_below HR0_0.out HB.out)|(with_reducible refine Kd.C_alloc ?_ _)|(with_reducible refine Kd.C_drewN ?_ _)|(with_reducible refine Kd.C_drew ?_)));(case side2=>exact HC0_0.out);rintro e w7 ⟨rfl,hb⟩;refine ⟨_,rfl,?_⟩;have n0_:=Aside0.mk (blk_below (g:=gb108) (o:=.cells #[.slice A0_0 l0_0.length c0_0] 24 (0,0)) (by (with_reducible repeat (first|refine blk_drewN ?_ _|refine blk_drew ?_|refine blk_alloc ?_ _));exact BK108.out) hb);have n1_:=Aside0.mk (below_step (by repeat (first|(with_reducible first|exact HB.out|apply below_alloc|apply pw_below_drewN|apply below_drew1|refine below_set ?_ GE108.out)|exact HB.out)) hb);clear BK108;clear HB;have BK108:=n0_;have HB:=n1_;clear n0_ n1_;(try clear hb);(try clear hb2);(try clear hk);(try clear hi)))
  go_ret
  exact ⟨by first|rfl|(simp [errW_none,errW_some]<;>rfl)|(simp [*,errW_none,errW_some]<;>rfl),by repeat (first|(with_reducible first|exact HB.out|apply below_alloc|apply pw_below_drewN|apply below_drew1|refine below_set ?_ GE108.out)|exact HB.out)⟩
 ·rw [if_neg c4] at H
  have c4b0:decide (t109<0)=false:=decide_eq_false c4
  clear c4
  obtain rfl:=Option.some.inj H
  go_enter Tryz.func5,Tryz.ntmps5
  go_wp2_with (first|((with_reducible refine gate_dst (N:=2) rfl ?_);refine box_event ?hg (N:=2) ?hd (cs:=#[.slice A0_0 l0_0.length c0_0]) (t:=24) ?hr ?_;(case hd=>rfl);(case hg=>rfl);(case hr=>first|(go_simp;done)|(go_simp;rfl));intro gb108 hg w8 hbox hb;have n0_:=Aside0.mk (below_step (by repeat (first|(with_reducible first|exact HB.out|apply below_alloc|apply pw_below_drewN|apply below_drew1)|exact HB.out)) hb);have n1_:=Aside0.mk (hbox);have n2_:=Aside0.mk ((by rw [hg];exact (below_size (by repeat (first|(with_reducible first|exact HB.out|apply below_alloc|apply pw_below_drewN|apply below_drew1)|exact HB.out))):w.heap.size≤gb108));have n3_:=Aside0.mk ((by rw [hg];exact (below_size (by repeat (first|(with_reducible first|exact HB.out|apply below_alloc|apply pw_below_drewN|apply below_drew1)|exact HB.out))):w.heap.size≤gb108));clear HB;have HB:=n0_;have BK108:=n1_;have GW108:=n2_;have GE108:=n3_;clear n0_ n1_ n2_ n3_;clear hb hbox hg;have hcz9_0:w8.cell? ⟨gb108,0,none⟩=some (.slice A0_0 l0_0.length c0_0):=(blk_cell BK108.out 0).trans rfl;have hfz9_0:=blk_frozen BK108.out 0)|((with_reducible refine gate_callee (f:=12) rfl ?_);refine goesL_ (some 8) rfl rfl Tryz.func12 (by kernel_rfl) rfl #[.slice A0_0 l0_0.length c0_0,.int .i64 a1] rfl (by (try simp only [List.map_toArray,List.map_cons,List.map_nil]);first|done|rfl|(simp only [List.length_drop,List.length_take];rfl)) ?_;(with_reducible refine (laws_szNodeS.calls k _ _ l0_0 a1 t109 _ ?side1 ?side2 A3.out).mono ?_);(case side1=>repeat (first|exact (Kd.C_below HR0_0.out HB.out)|(with_reducible refine Kd.C_alloc ?_ _)|(with_reducible refine Kd.C_drewN ?_ _)|(with_reducible refine Kd.C_drew ?_)));(case side2=>exact HC0_0.out);rintro e w10 ⟨rfl,hb⟩;refine ⟨_,rfl,?_⟩;have n0_:=Aside0.mk (blk_below (g:=gb108) (o:=.cells #[.slice A0_0 l0_0.length c0_0] 24 (0,0)) (by (with_reducible repeat (first|refine blk_drewN ?_ _|refine blk_drew ?_|refine blk_alloc ?_ _));exact BK108.out) hb);have n1_:=Aside0.mk (below_step (by repeat (first|(with_reducible first|exact HB.out|apply below_alloc|apply pw_below_drewN|apply below_drew1|refine below_set ?_ GE108.out)|exact HB.out)) hb);clear BK108;clear HB;have BK108:=n0_;have HB:=n1_;clear n0_ n1_;(try clear hb);(try clear hb2);(try clear hk);(try clear hi)))
  go_ret
  exact ⟨by first|rfl|(simp [errW_none,errW_some]<;>rfl)|(simp [*,errW_none,errW_some]<;>rfl),by repeat (first|(with_reducible first|exact HB.out|apply below_alloc|apply pw_below_drewN|apply below_drew1|refine below_set ?_ GE108.out)|exact HB.out)⟩
/-! ### spec_l3Skip: function 23 -/
def spec_l3Skip.l0:Nat→List (S57)→Int→Int→Option (Int)
 |0,_,_,_=>none
 |k+1,x0,x1,x5=>if x5 > 0 then (if x1≥(x0.length:Int) then (some (-1)) else (if 0≤x1 then (if x1<(x0.length:Int) then (if ((rd_T57 x0 x1).f5)<0 then (some (-1)) else (if ((rd_T57 x0 x1).f5) > (x0.length:Int) then (some (-1)) else (spec_l3Skip.l0 k x0 (wrap64 (x1+1)) (wrap64 (x5+(wrap64 (((rd_T57 x0 x1).f5) - 1))))))) else (none)) else (none))) else (some x1)
def spec_l3Skip.f (k:Nat) (l0:List (S57)) (a1:Int):Option (Int):=spec_l3Skip.l0 k l0 a1 1
theorem spec_l3Skip.mono_l:∀ k,(∀ y0 y1 y2,LeO (spec_l3Skip.l0 k y0 y1 y2) (spec_l3Skip.l0 (k+1) y0 y1 y2))
 |0=>fun _ _ _ r h=>by simp [spec_l3Skip.l0] at h
 |k+1=>by
  have ih0:=spec_l3Skip.mono_l k
  ·intro y0 y1 y2
   unfold spec_l3Skip.l0
   repeat' first
   |(with_reducible exact ih0 _ _ _)
   |(with_reducible exact LeO.refl _)
   |(with_reducible exact LeO.none _)
   |(with_reducible refine LeO.ite ?_ ?_)
   |(with_reducible refine LeO.bind ?_ (fun _=>?_))
   |exact ih0 _ _ _
   |exact LeO.none _
   |refine LeO.ite ?_ ?_
   |refine LeO.bind ?_ (fun _=>?_)
theorem spec_l3Skip.mono:∀ a0 a1 k,LeO (spec_l3Skip.f k a0 a1) (spec_l3Skip.f (k+1) a0 a1):=by
 intro a0 a1 k
 have ih0:=spec_l3Skip.mono_l k
 unfold spec_l3Skip.f
 repeat' first
   |(with_reducible exact ih0 _ _ _)
   |(with_reducible exact LeO.refl _)
   |(with_reducible exact LeO.none _)
   |(with_reducible refine LeO.ite ?_ ?_)
   |(with_reducible refine LeO.bind ?_ (fun _=>?_))
   |exact ih0 _ _ _
   |exact LeO.none _
   |refine LeO.ite ?_ ?_
   |refine LeO.bind ?_ (fun _=>?_)
set_option maxHeartbeats 8000000 in
set_option maxRecDepth 100000 in
theorem spec_l3Skip.calls (k:Nat) (A0:Option Addr) (c0:Nat) (l0:List (S57)) (a1:Int) (r:Int) (w:World) (hr0:Kd.C k57 w A0 l0.length l0) (hc0:l0.length≤c0) (h:spec_l3Skip.f k l0 a1=some r) :
  Calls Tryz.prog 23 #[.slice A0 l0.length c0,.int .i64 a1] w fun e w'=>e=.returned (.int .i64 r)∧Drawn0 w w':=by
 have HR0:=Aside0.mk hr0
 have HC0:=Aside0.mk hc0
 clear hr0 hc0
 have H:(spec_l3Skip.l0 k l0 a1 1)=some r:=h
 clear h
 have H':=Aside0.mk H
 clear H
 go_enter Tryz.func23,Tryz.ntmps23
 go_wp2
 go_loopg [1,5] k (fun kq v1 v5 w'=>∃ (x1_1:Int) (x5_1:Int),v1=.int .i64 x1_1∧v5=.int .i64 x5_1∧Aside0 (spec_l3Skip.l0 kq l0 x1_1 x5_1=some r)∧Aside0 (kq≤k)∧Drawn0 w w')
 case atStart=>exact ⟨(a1),(1),(by first|rfl|(simp;done)|(simp [*];done)),(by first|rfl|(simp;done)|(simp [*];done)),H',⟨Nat.le_refl _⟩,by repeat (first|exact Drawn0.refl _|apply Drawn0.step)⟩
 case round=>
  clear H'
  try clear c2
  try clear p2
  obtain ⟨x1_1,x5_1,rfl,rfl,HA,HK1,⟨m1,rfl⟩⟩:=hrel
  cases gk with
  |zero=>exact absurd HA.out (by simp [spec_l3Skip.l0])
  |succ k1=>
   have H:=HA.out
   clear HA
   simp only [spec_l3Skip.l0] at H
   by_cases c3:x5_1 > 0
   ·rw [if_pos c3] at H
    have c3b0:decide (0<x5_1)=true:=decide_eq_true c3
    clear c3
    by_cases c4:x1_1≥(l0.length:Int)
    ·rw [if_pos c4] at H
     have c4b0:decide ((l0.length:Int)≤x1_1)=true:=decide_eq_true c4
     clear c4
     obtain rfl:=Option.some.inj H
     go_wp2
     go_ret
     exact ⟨by first|rfl|(simp;done)|(simp [*];done),by repeat (first|exact Drawn0.refl _|apply Drawn0.step)⟩
    ·rw [if_neg c4] at H
     have c4b0:decide ((l0.length:Int)≤x1_1)=false:=decide_eq_false c4
     clear c4
     by_cases c5:0≤x1_1
     ·rw [if_pos c5] at H
      have c5b0:decide (0≤x1_1)=true:=decide_eq_true c5
      clear c5
      by_cases c6:x1_1<(l0.length:Int)
      ·rw [if_pos c6] at H
       have c6b0:decide (x1_1<(l0.length:Int))=true:=decide_eq_true c6
       clear c6
       by_cases c7:((rd_T57 l0 x1_1).f5)<0
       ·rw [if_pos c7] at H
        have c7b0:decide (((rd_T57 l0 x1_1).f5)<0)=true:=decide_eq_true c7
        clear c7
        obtain rfl:=Option.some.inj H
        have p110:0≤(x1_1:Int):=of_decide_eq_true (by first|(with_reducible assumption)|assumption)
        have q110:x1_1<(l0.length:Int):=of_decide_eq_true (by first|(with_reducible assumption)|assumption)
        obtain ⟨ad110,A110_3,c110_3,e110,hx110_0,hx110_1,hx110_2,hx110_3,hx110_4,hx110_5,hl110_3,hi110_3⟩:=at_T57 HR0.out x1_1 p110 q110
        cases e110
        have HR110_3:=Aside0.mk hi110_3
        have HC110_3:=Aside0.mk hl110_3
        clear hi110_3 hl110_3
        replace p110:=eq_true p110
        replace q110:=eq_true q110
        go_wp2
        go_ret
        exact ⟨by first|rfl|(simp;done)|(simp [*];done),by repeat (first|exact Drawn0.refl _|apply Drawn0.step)⟩
       ·rw [if_neg c7] at H
        have c7b0:decide (((rd_T57 l0 x1_1).f5)<0)=false:=decide_eq_false c7
        clear c7
        by_cases c8:((rd_T57 l0 x1_1).f5) > (l0.length:Int)
        ·rw [if_pos c8] at H
         have c8b0:decide ((l0.length:Int)<((rd_T57 l0 x1_1).f5))=true:=decide_eq_true c8
         clear c8
         obtain rfl:=Option.some.inj H
         have p110:0≤(x1_1:Int):=of_decide_eq_true (by first|(with_reducible assumption)|assumption)
         have q110:x1_1<(l0.length:Int):=of_decide_eq_true (by first|(with_reducible assumption)|assumption)
         obtain ⟨ad110,A110_3,c110_3,e110,hx110_0,hx110_1,hx110_2,hx110_3,hx110_4,hx110_5,hl110_3,hi110_3⟩:=at_T57 HR0.out x1_1 p110 q110
         cases e110
         have HR110_3:=Aside0.mk hi110_3
         have HC110_3:=Aside0.mk hl110_3
         clear hi110_3 hl110_3
         replace p110:=eq_true p110
         replace q110:=eq_true q110
         have p111:0≤(x1_1:Int):=of_decide_eq_true (by first|(with_reducible assumption)|assumption)
         have q111:x1_1<(l0.length:Int):=of_decide_eq_true (by first|(with_reducible assumption)|assumption)
         obtain ⟨ad111,A111_3,c111_3,e111,hx111_0,hx111_1,hx111_2,hx111_3,hx111_4,hx111_5,hl111_3,hi111_3⟩:=at_T57 HR0.out x1_1 p111 q111
         obtain rfl:ad110=ad111:=(by injection e111)
         have HR111_3:=Aside0.mk hi111_3
         have HC111_3:=Aside0.mk hl111_3
         clear hi111_3 hl111_3
         replace p111:=eq_true p111
         replace q111:=eq_true q111
         have ea_:=Option.some.inj (hx110_3.symm.trans hx111_3)
         injection ea_ with ea_ en_ ec_
         subst ea_
         subst ec_
         clear en_
         go_wp2
         go_ret
         exact ⟨by first|rfl|(simp;done)|(simp [*];done),by repeat (first|exact Drawn0.refl _|apply Drawn0.step)⟩
        ·rw [if_neg c8] at H
         have c8b0:decide ((l0.length:Int)<((rd_T57 l0 x1_1).f5))=false:=decide_eq_false c8
         clear c8
         have H':=Aside0.mk H
         clear H
         have p110:0≤(x1_1:Int):=of_decide_eq_true (by first|(with_reducible assumption)|assumption)
         have q110:x1_1<(l0.length:Int):=of_decide_eq_true (by first|(with_reducible assumption)|assumption)
         obtain ⟨ad110,A110_3,c110_3,e110,hx110_0,hx110_1,hx110_2,hx110_3,hx110_4,hx110_5,hl110_3,hi110_3⟩:=at_T57 HR0.out x1_1 p110 q110
         cases e110
         have HR110_3:=Aside0.mk hi110_3
         have HC110_3:=Aside0.mk hl110_3
         clear hi110_3 hl110_3
         replace p110:=eq_true p110
         replace q110:=eq_true q110
         have p111:0≤(x1_1:Int):=of_decide_eq_true (by first|(with_reducible assumption)|assumption)
         have q111:x1_1<(l0.length:Int):=of_decide_eq_true (by first|(with_reducible assumption)|assumption)
         obtain ⟨ad111,A111_3,c111_3,e111,hx111_0,hx111_1,hx111_2,hx111_3,hx111_4,hx111_5,hl111_3,hi111_3⟩:=at_T57 HR0.out x1_1 p111 q111
         obtain rfl:ad110=ad111:=(by injection e111)
         have HR111_3:=Aside0.mk hi111_3
         have HC111_3:=Aside0.mk hl111_3
         clear hi111_3 hl111_3
         replace p111:=eq_true p111
         replace q111:=eq_true q111
         have ea_:=Option.some.inj (hx110_3.symm.trans hx111_3)
         injection ea_ with ea_ en_ ec_
         subst ea_
         subst ec_
         clear en_
         have p112:0≤(x1_1:Int):=of_decide_eq_true (by first|(with_reducible assumption)|assumption)
         have q112:x1_1<(l0.length:Int):=of_decide_eq_true (by first|(with_reducible assumption)|assumption)
         obtain ⟨ad112,A112_3,c112_3,e112,hx112_0,hx112_1,hx112_2,hx112_3,hx112_4,hx112_5,hl112_3,hi112_3⟩:=at_T57 HR0.out x1_1 p112 q112
         obtain rfl:ad110=ad112:=(by injection e112)
         have HR112_3:=Aside0.mk hi112_3
         have HC112_3:=Aside0.mk hl112_3
         clear hi112_3 hl112_3
         replace p112:=eq_true p112
         replace q112:=eq_true q112
         have ea_:=Option.some.inj (hx110_3.symm.trans hx112_3)
         injection ea_ with ea_ en_ ec_
         subst ea_
         subst ec_
         clear en_
         go_wp2
         go_roundg k1
         case measure=>have:=HK1.out;omega
         case rel=>exact ⟨(wrap64 (x1_1+1)),(wrap64 (x5_1+(wrap64 (((rd_T57 l0 x1_1).f5) - 1)))),(by first|rfl|(simp;done)|(simp [*];done)),(by first|rfl|(simp;done)|(simp [*];done)),H',⟨by have:=HK1.out;omega⟩,by repeat (first|exact Drawn0.refl _|apply Drawn0.step)⟩
      ·rw [if_neg c6] at H
       exact absurd H (by simp)
     ·rw [if_neg c5] at H
      exact absurd H (by simp)
   ·rw [if_neg c3] at H
    have c3b0:decide (0<x5_1)=false:=decide_eq_false c3
    clear c3
    obtain rfl:=Option.some.inj H
    go_wp2
    go_ret
    exact ⟨by first|rfl|(simp;done)|(simp [*];done),by repeat (first|exact Drawn0.refl _|apply Drawn0.step)⟩
/-! ### spec_l2Has: function 32 -/
def spec_l2Has.l0:Nat→List (S77)→ByteArray→Int→Option (Bool)
 |0,_,_,_=>none
 |k+1,x0,x1,x5=>if x5<(x0.length:Int) then (if 0≤x5 then (if ((rd_T77 x0 x5).f0).toList=x1.toList then (some true) else (spec_l2Has.l0 k x0 x1 (wrap64 (x5+1)))) else (none)) else (some false)
def spec_l2Has.f (k:Nat) (l0:List (S77)) (a1:ByteArray):Option (Bool):=spec_l2Has.l0 k l0 a1 0
theorem spec_l2Has.mono_l:∀ k,(∀ y0 y1 y2,LeO (spec_l2Has.l0 k y0 y1 y2) (spec_l2Has.l0 (k+1) y0 y1 y2))
 |0=>fun _ _ _ r h=>by simp [spec_l2Has.l0] at h
 |k+1=>by
  have ih0:=spec_l2Has.mono_l k
  ·intro y0 y1 y2
   unfold spec_l2Has.l0
   repeat' first
   |(with_reducible exact ih0 _ _ _)
   |(with_reducible exact LeO.refl _)
   |(with_reducible exact LeO.none _)
   |(with_reducible refine LeO.ite ?_ ?_)
   |(with_reducible refine LeO.bind ?_ (fun _=>?_))
   |exact ih0 _ _ _
   |exact LeO.none _
   |refine LeO.ite ?_ ?_
   |refine LeO.bind ?_ (fun _=>?_)
theorem spec_l2Has.mono:∀ a0 a1 k,LeO (spec_l2Has.f k a0 a1) (spec_l2Has.f (k+1) a0 a1):=by
 intro a0 a1 k
 have ih0:=spec_l2Has.mono_l k
 unfold spec_l2Has.f
 repeat' first
   |(with_reducible exact ih0 _ _ _)
   |(with_reducible exact LeO.refl _)
   |(with_reducible exact LeO.none _)
   |(with_reducible refine LeO.ite ?_ ?_)
   |(with_reducible refine LeO.bind ?_ (fun _=>?_))
   |exact ih0 _ _ _
   |exact LeO.none _
   |refine LeO.ite ?_ ?_
   |refine LeO.bind ?_ (fun _=>?_)
set_option maxHeartbeats 8000000 in
set_option maxRecDepth 100000 in
theorem spec_l2Has.calls (k:Nat) (A0:Option Addr) (c0:Nat) (l0:List (S77)) (a1:ByteArray) (r:Bool) (w:World) (hr0:Kd.C k77 w A0 l0.length l0) (hc0:l0.length≤c0) (h:spec_l2Has.f k l0 a1=some r) :
  Calls Tryz.prog 32 #[.slice A0 l0.length c0,.string a1] w fun e w'=>e=.returned (.bool r)∧Drawn0 w w':=by
 have HR0:=Aside0.mk hr0
 have HC0:=Aside0.mk hc0
 clear hr0 hc0
 have H:(spec_l2Has.l0 k l0 a1 0)=some r:=h
 clear h
 have H':=Aside0.mk H
 clear H
 go_enter Tryz.func32,Tryz.ntmps32
 go_wp2
 go_loopg [5] k (fun kq v5 w'=>∃ (x5_1:Int),v5=.int .i64 x5_1∧Aside0 (spec_l2Has.l0 kq l0 a1 x5_1=some r)∧Aside0 (kq≤k)∧Drawn0 w w')
 case atStart=>exact ⟨(0),(by first|rfl|(simp;done)|(simp [*];done)),H',⟨Nat.le_refl _⟩,by repeat (first|exact Drawn0.refl _|apply Drawn0.step)⟩
 case round=>
  clear H'
  try clear p2
  obtain ⟨x5_1,rfl,HA,HK1,⟨m1,rfl⟩⟩:=hrel
  cases gk with
  |zero=>exact absurd HA.out (by simp [spec_l2Has.l0])
  |succ k1=>
   have H:=HA.out
   clear HA
   simp only [spec_l2Has.l0] at H
   by_cases c3:x5_1<(l0.length:Int)
   ·rw [if_pos c3] at H
    have c3b0:decide (x5_1<(l0.length:Int))=true:=decide_eq_true c3
    clear c3
    by_cases c4:0≤x5_1
    ·rw [if_pos c4] at H
     have c4b0:decide (0≤x5_1)=true:=decide_eq_true c4
     clear c4
     by_cases c5:((rd_T77 l0 x5_1).f0).toList=a1.toList
     ·rw [if_pos c5] at H
      have c5b0:(((rd_T77 l0 x5_1).f0).toList==a1.toList)=true:=beq_iff_eq.mpr c5
      have c5b1:(((rd_T77 l0 x5_1).f0).toList != a1.toList)=false:=bne_eq_false_iff_eq.mpr c5
      clear c5
      obtain rfl:=Option.some.inj H
      have p113:0≤(x5_1:Int):=of_decide_eq_true (by first|(with_reducible assumption)|assumption)
      have q113:x5_1<(l0.length:Int):=of_decide_eq_true (by first|(with_reducible assumption)|assumption)
      obtain ⟨ad113,e113,hx113_0,hx113_1⟩:=at_T77 HR0.out x5_1 p113 q113
      cases e113
      replace p113:=eq_true p113
      replace q113:=eq_true q113
      go_wp2
      go_ret
      exact ⟨by first|rfl|(simp;done)|(simp [*];done),by repeat (first|exact Drawn0.refl _|apply Drawn0.step)⟩
     ·rw [if_neg c5] at H
      have c5b0:(((rd_T77 l0 x5_1).f0).toList==a1.toList)=false:=beq_eq_false_iff_ne.mpr c5
      have c5b1:(((rd_T77 l0 x5_1).f0).toList != a1.toList)=true:=bne_iff_ne.mpr c5
      have H':=Aside0.mk H
      clear H
      have p113:0≤(x5_1:Int):=of_decide_eq_true (by first|(with_reducible assumption)|assumption)
      have q113:x5_1<(l0.length:Int):=of_decide_eq_true (by first|(with_reducible assumption)|assumption)
      obtain ⟨ad113,e113,hx113_0,hx113_1⟩:=at_T77 HR0.out x5_1 p113 q113
      cases e113
      replace p113:=eq_true p113
      replace q113:=eq_true q113
      go_wp2
      go_roundg k1
      case measure=>have:=HK1.out;omega
      case rel=>exact ⟨(wrap64 (x5_1+1)),(by first|rfl|(simp;done)|(simp [*];done)),H',⟨by have:=HK1.out;omega⟩,by repeat (first|exact Drawn0.refl _|apply Drawn0.step)⟩
    ·rw [if_neg c4] at H
     exact absurd H (by simp)
   ·rw [if_neg c3] at H
    have c3b0:decide (x5_1<(l0.length:Int))=false:=decide_eq_false c3
    clear c3
    obtain rfl:=Option.some.inj H
    go_wp2
    go_ret
    exact ⟨by first|rfl|(simp;done)|(simp [*];done),by repeat (first|exact Drawn0.refl _|apply Drawn0.step)⟩
end Go.Proofs.YtjojmfhgfeflnaaGreatDoor.QFnExactWrite
