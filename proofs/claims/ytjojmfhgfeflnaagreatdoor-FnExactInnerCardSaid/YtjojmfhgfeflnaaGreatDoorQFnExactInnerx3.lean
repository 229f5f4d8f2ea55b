/- Written by a program (wip/tools/own_print.py) out of the walk that the kit's printer made; turned where it fell. -/
-- PRINTED by print.py (a twelfth state) out of the translation. Not trusted: Lean checks it.
import Derived.Test.YtjojmfhgfeflnaaGreatDoorQFnExactInnerx0
import Derived.Test.YtjojmfhgfeflnaaGreatDoorQFnExactInnerx2
namespace Go.Proofs.YtjojmfhgfeflnaaGreatDoor.QFnExactInner
open Go.RowKit Go.Proofs.YtjojmfhgfeflnaaGreatDoorV.PrintWords Go.Proofs.YtjojmfhgfeflnaaGreatDoorV.PrintLast Go.Proofs.YtjojmfhgfeflnaaGreatDoorV.PrintMore
attribute [local go_sem] max2_int min2_int max_two min_two max_three min_three max_four min_four   -- for this text's walks alone
set_option linter.unusedVariables false
set_option linter.unusedSimpArgs false
/-! ### laws_eqNodeS: function 20 -/
def laws_eqNodeS.l0:Nat→List (S57)→List (S57)→Int→Option (Bool)
 |0,_,_,_=>none
 |k+1,x0,x1,x5=>if x5<(x0.length:Int) then (if 0≤x5 then (if x5<(x1.length:Int) then ((laws_eqNode.f k ((rd_T57 x0 x5).f0) ((rd_T57 x0 x5).f1) ((rd_T57 x0 x5).f2) ((rd_T57 x0 x5).f3) ((rd_T57 x0 x5).f4) ((rd_T57 x0 x5).f5) ((rd_T57 x1 x5).f0) ((rd_T57 x1 x5).f1) ((rd_T57 x1 x5).f2) ((rd_T57 x1 x5).f3) ((rd_T57 x1 x5).f4) ((rd_T57 x1 x5).f5)).bind fun t155=>(if t155=true then (laws_eqNodeS.l0 k x0 x1 (wrap64 (x5+1))) else (none))) else (none)) else (none)) else (some true)
def laws_eqNodeS.f (k:Nat) (l0:List (S57)) (l1:List (S57)):Option (Bool):=if (l0.length:Int)=(l1.length:Int) then (laws_eqNodeS.l0 k l0 l1 0) else (none)
theorem laws_eqNodeS.mono_l:∀ k,(∀ y0 y1 y2,LeO (laws_eqNodeS.l0 k y0 y1 y2) (laws_eqNodeS.l0 (k+1) y0 y1 y2))
 |0=>fun _ _ _ r h=>by simp [laws_eqNodeS.l0] at h
 |k+1=>by
  have ih0:=laws_eqNodeS.mono_l k
  ·intro y0 y1 y2
   unfold laws_eqNodeS.l0
   repeat' first
   |(with_reducible exact ih0 _ _ _)
   |(with_reducible exact laws_eqNode.mono _ _ _ _ _ _ _ _ _ _ _ _ _)
   |(with_reducible exact LeO.refl _)
   |(with_reducible exact LeO.none _)
   |(with_reducible refine LeO.ite ?_ ?_)
   |(with_reducible refine LeO.bind ?_ (fun _=>?_))
   |exact ih0 _ _ _
   |exact laws_eqNode.mono _ _ _ _ _ _ _ _ _ _ _ _ _
   |exact LeO.none _
   |refine LeO.ite ?_ ?_
   |refine LeO.bind ?_ (fun _=>?_)
theorem laws_eqNodeS.mono:∀ a0 a1 k,LeO (laws_eqNodeS.f k a0 a1) (laws_eqNodeS.f (k+1) a0 a1):=by
 intro a0 a1 k
 have ih0:=laws_eqNodeS.mono_l k
 unfold laws_eqNodeS.f
 repeat' first
   |(with_reducible exact ih0 _ _ _)
   |(with_reducible exact laws_eqNode.mono _ _ _ _ _ _ _ _ _ _ _ _ _)
   |(with_reducible exact LeO.refl _)
   |(with_reducible exact LeO.none _)
   |(with_reducible refine LeO.ite ?_ ?_)
   |(with_reducible refine LeO.bind ?_ (fun _=>?_))
   |exact ih0 _ _ _
   |exact laws_eqNode.mono _ _ _ _ _ _ _ _ _ _ _ _ _
   |exact LeO.none _
   |refine LeO.ite ?_ ?_
   |refine LeO.bind ?_ (fun _=>?_)
def laws_eqNodeS.T6:Bool×List (List Nat×List Nat):=(true,[([],[]),([],[]),([0,1],[0,1]),([2],[2]),([],[]),([],[]),([4,5],[4,5]),([6],[6]),([3,7],[3,7]),([8],[8])])
def laws_eqNodeS.B6:List Nat:=[0,0,3,7,0,0,48,112,255,511]
theorem laws_eqNodeS.tab6:rtab .any (opsOf Tryz.f20 6)=laws_eqNodeS.T6:=by kernel_rfl
theorem laws_eqNodeS.bits6:waitsOk laws_eqNodeS.T6.2 laws_eqNodeS.B6=true:=by kernel_rfl
set_option maxHeartbeats 8000000 in
set_option maxRecDepth 100000 in
theorem laws_eqNodeS.calls (k:Nat) (A0:Option Addr) (c0:Nat) (l0:List (S57)) (A1:Option Addr) (c1:Nat) (l1:List (S57)) (r:Bool) (w:World) (hr0:Kd.C k57 w A0 l0.length l0) (hc0:l0.length≤c0) (hr1:Kd.C k57 w A1 l1.length l1) (hc1:l1.length≤c1) (h:laws_eqNodeS.f k l0 l1=some r) :
  Calls Tryz.prog 20 #[.slice A0 l0.length c0,.slice A1 l1.length c1] w fun e w'=>e=.returned (.bool r)∧Below w.heap.size w w':=by
 have hu57:=Tryz.underlying57
 have HR0:=Aside0.mk hr0
 have HC0:=Aside0.mk hc0
 clear hr0 hc0
 have HR1:=Aside0.mk hr1
 have HC1:=Aside0.mk hc1
 clear hr1 hc1
 have HB:=Aside0.mk (Below.refl w.heap.size w)
 have H:(if (l0.length:Int)=(l1.length:Int) then (laws_eqNodeS.l0 k l0 l1 0) else (none))=some r:=h
 clear h
 by_cases c3:(l0.length:Int)=(l1.length:Int)
 ·rw [if_pos c3] at H
  have c3b0:((l0.length:Int)==(l1.length:Int))=true:=beq_iff_eq.mpr c3
  have c3b1:((l0.length:Int) != (l1.length:Int))=false:=bne_eq_false_iff_eq.mpr c3
  have c3b2:(l0.length==l1.length)=true:=by first|simpa using c3|(simp at c3 ⊢;omega)
  clear c3
  have H':=Aside0.mk H
  clear H
  go_enter Tryz.func20,Tryz.ntmps20
  go_wp2
  go_loopg [5] k (fun kq v5 w'=>∃ (x5_1:Int),v5=.int .i64 x5_1∧Aside0 (laws_eqNodeS.l0 kq l0 l1 x5_1=some r)∧Aside0 (kq≤k)∧Aside0 (Below w.heap.size w w'))
  case atStart=>exact ⟨(0),(by first|rfl|(simp;done)|(simp [*];done)),H',⟨Nat.le_refl _⟩,⟨by repeat (first|(with_reducible first|exact HB.out|apply below_alloc|apply pw_below_drewN|apply below_drew1)|exact HB.out)⟩⟩
  case round=>
   clear H'
   try clear c1
   try clear c2
   try clear p2
   try clear c3
   try clear c3b0
   try clear c3b1
   try clear c3b2
   obtain ⟨x5_1,rfl,HA,HK1,HB⟩:=hrel
   cases gk with
   |zero=>exact absurd HA.out (by simp [laws_eqNodeS.l0])
   |succ k1=>
    have H:=HA.out
    clear HA
    simp only [laws_eqNodeS.l0] at H
    by_cases c4:x5_1<(l0.length:Int)
    ·rw [if_pos c4] at H
     have c4b0:decide (x5_1<(l0.length:Int))=true:=decide_eq_true c4
     clear c4
     by_cases c5:0≤x5_1
     ·rw [if_pos c5] at H
      have c5b0:decide (0≤x5_1)=true:=decide_eq_true c5
      clear c5
      by_cases c6:x5_1<(l1.length:Int)
      ·rw [if_pos c6] at H
       have c6b0:decide (x5_1<(l1.length:Int))=true:=decide_eq_true c6
       clear c6
       replace H:=Option.bind_eq_some_iff.mp H
       obtain ⟨t155,A70,H⟩:=H
       replace H:(if t155=true then (laws_eqNodeS.l0 k1 l0 l1 (wrap64 (x5_1+1))) else (none))=some r:=H
       have A7:=Aside0.mk A70
       clear A70
       by_cases c8:t155=true
       ·subst c8
        have H1:(laws_eqNodeS.l0 k1 l0 l1 (wrap64 (x5_1+1)))=some r:=by rw [if_pos rfl] at H;exact H
        clear H
        have H:=H1
        clear H1
        have H':=Aside0.mk H
        clear H
        try go_wp2
        have n0_:=Aside0.mk (below_drew1 HB.out)
        clear HB
        have HB:=n0_
        clear n0_
        have p153:0≤(x5_1:Int):=of_decide_eq_true (by first|(with_reducible assumption)|assumption)
        have q153:x5_1<(l0.length:Int):=of_decide_eq_true (by first|(with_reducible assumption)|assumption)
        obtain ⟨ad153,A153_3,c153_3,e153,hx153_0,hx153_1,hx153_2,hx153_3,hx153_4,hx153_5,hl153_3,hi153_3⟩:=at_T57 HR0.out x5_1 p153 q153
        have hw153_5:=hx153_5
        have hw153_4:=hx153_4
        have hw153_3:=hx153_3
        have hw153_2:=hx153_2
        have hw153_1:=hx153_1
        have hw153_0:=hx153_0
        cases e153
        replace hx153_0:=(HB.out.cell (World.block_lt_of_cell? w _ hx153_0)).trans hx153_0
        replace hx153_1:=(HB.out.cell (World.block_lt_of_cell? w _ hx153_1)).trans hx153_1
        replace hx153_2:=(HB.out.cell (World.block_lt_of_cell? w _ hx153_2)).trans hx153_2
        replace hx153_3:=(HB.out.cell (World.block_lt_of_cell? w _ hx153_3)).trans hx153_3
        replace hx153_4:=(HB.out.cell (World.block_lt_of_cell? w _ hx153_4)).trans hx153_4
        replace hx153_5:=(HB.out.cell (World.block_lt_of_cell? w _ hx153_5)).trans hx153_5
        have HR153_3:=Aside0.mk hi153_3
        have HC153_3:=Aside0.mk hl153_3
        clear hi153_3 hl153_3
        replace p153:=eq_true p153
        replace q153:=eq_true q153
        have p154:0≤(x5_1:Int):=of_decide_eq_true (by first|(with_reducible assumption)|assumption)
        have q154:x5_1<(l1.length:Int):=of_decide_eq_true (by first|(with_reducible assumption)|assumption)
        obtain ⟨ad154,A154_3,c154_3,e154,hx154_0,hx154_1,hx154_2,hx154_3,hx154_4,hx154_5,hl154_3,hi154_3⟩:=at_T57 HR1.out x5_1 p154 q154
        have hw154_5:=hx154_5
        have hw154_4:=hx154_4
        have hw154_3:=hx154_3
        have hw154_2:=hx154_2
        have hw154_1:=hx154_1
        have hw154_0:=hx154_0
        cases e154
        replace hx154_0:=(HB.out.cell (World.block_lt_of_cell? w _ hx154_0)).trans hx154_0
        replace hx154_1:=(HB.out.cell (World.block_lt_of_cell? w _ hx154_1)).trans hx154_1
        replace hx154_2:=(HB.out.cell (World.block_lt_of_cell? w _ hx154_2)).trans hx154_2
        replace hx154_3:=(HB.out.cell (World.block_lt_of_cell? w _ hx154_3)).trans hx154_3
        replace hx154_4:=(HB.out.cell (World.block_lt_of_cell? w _ hx154_4)).trans hx154_4
        replace hx154_5:=(HB.out.cell (World.block_lt_of_cell? w _ hx154_5)).trans hx154_5
        have HR154_3:=Aside0.mk hi154_3
        have HC154_3:=Aside0.mk hl154_3
        clear hi154_3 hl154_3
        replace p154:=eq_true p154
        replace q154:=eq_true q154
        refine start_ (n:=10) (S:=fun w'=>w'.cell? (ad153.add ((x5_1).toNat*6))=some (.int .i64 ((rd_T57 l0 x5_1).f0))∧w'.cell? ⟨(ad153.add ((x5_1).toNat*6)).block,(ad153.add ((x5_1).toNat*6)).off+1,none⟩=some (.int .i64 ((rd_T57 l0 x5_1).f1))∧w'.cell? ⟨(ad153.add ((x5_1).toNat*6)).block,(ad153.add ((x5_1).toNat*6)).off+2,none⟩=some (.string ((rd_T57 l0 x5_1).f2))∧w'.cell? ⟨(ad153.add ((x5_1).toNat*6)).block,(ad153.add ((x5_1).toNat*6)).off+3,none⟩=some (.slice A153_3 ((rd_T57 l0 x5_1).f3).length c153_3)∧w'.cell? ⟨(ad153.add ((x5_1).toNat*6)).block,(ad153.add ((x5_1).toNat*6)).off+4,none⟩=some (.string ((rd_T57 l0 x5_1).f4))∧w'.cell? ⟨(ad153.add ((x5_1).toNat*6)).block,(ad153.add ((x5_1).toNat*6)).off+5,none⟩=some (.int .i64 ((rd_T57 l0 x5_1).f5))∧w'.cell? (ad154.add ((x5_1).toNat*6))=some (.int .i64 ((rd_T57 l1 x5_1).f0))∧w'.cell? ⟨(ad154.add ((x5_1).toNat*6)).block,(ad154.add ((x5_1).toNat*6)).off+1,none⟩=some (.int .i64 ((rd_T57 l1 x5_1).f1))∧w'.cell? ⟨(ad154.add ((x5_1).toNat*6)).block,(ad154.add ((x5_1).toNat*6)).off+2,none⟩=some (.string ((rd_T57 l1 x5_1).f2))∧w'.cell? ⟨(ad154.add ((x5_1).toNat*6)).block,(ad154.add ((x5_1).toNat*6)).off+3,none⟩=some (.slice A154_3 ((rd_T57 l1 x5_1).f3).length c154_3)∧w'.cell? ⟨(ad154.add ((x5_1).toNat*6)).block,(ad154.add ((x5_1).toNat*6)).off+4,none⟩=some (.string ((rd_T57 l1 x5_1).f4))∧w'.cell? ⟨(ad154.add ((x5_1).toNat*6)).block,(ad154.add ((x5_1).toNat*6)).off+5,none⟩=some (.int .i64 ((rd_T57 l1 x5_1).f5))) (ds:=[]) #[false,false,false,false,false,false,false,false,false,false] (by kernel_rfl) rfl rfl ⟨((HB.out.cell (World.block_lt_of_cell? w _ hw153_0)).trans hw153_0),((HB.out.cell (World.block_lt_of_cell? w _ hw153_1)).trans hw153_1),((HB.out.cell (World.block_lt_of_cell? w _ hw153_2)).trans hw153_2),((HB.out.cell (World.block_lt_of_cell? w _ hw153_3)).trans hw153_3),((HB.out.cell (World.block_lt_of_cell? w _ hw153_4)).trans hw153_4),((HB.out.cell (World.block_lt_of_cell? w _ hw153_5)).trans hw153_5),((HB.out.cell (World.block_lt_of_cell? w _ hw154_0)).trans hw154_0),((HB.out.cell (World.block_lt_of_cell? w _ hw154_1)).trans hw154_1),((HB.out.cell (World.block_lt_of_cell? w _ hw154_2)).trans hw154_2),((HB.out.cell (World.block_lt_of_cell? w _ hw154_3)).trans hw154_3),((HB.out.cell (World.block_lt_of_cell? w _ hw154_4)).trans hw154_4),((HB.out.cell (World.block_lt_of_cell? w _ hw154_5)).trans hw154_5)⟩ (fun hHeld=>?_);refine with_tabW laws_eqNodeS.tab6 laws_eqNodeS.bits6 (fun HT_ HW_=>?_)
        generalize wr.drew=w9 at HB HR153_3 HR154_3 hx153_0 hx153_1 hx153_2 hx153_3 hx153_4 hx153_5 hx154_0 hx154_1 hx154_2 hx154_3 hx154_4 hx154_5 hHeld ⊢
        refine pure_ (i:=0) (N:=some 17) (v:=?_) (a':=?_) #[true,false,false,false,false,false,false,false,false,false] rfl rfl (any_of HT_.out (by kernel_rfl)) (fun _ _ _ h=>h) (Or.inl ⟨by rfl,?_⟩) ?_ ?_
        rotate_left
        ·intro w'
         go_simp
         with_reducible rfl
        rotate_left
        ·simp only [Act.put,List.setIfInBounds_toArray,List.set_cons_zero,List.set_cons_succ,i64_w,i32_w]
         rfl
        refine pure_ (i:=1) (N:=some 18) (v:=?_) (a':=?_) #[true,true,false,false,false,false,false,false,false,false] rfl rfl (any_of HT_.out (by kernel_rfl)) (fun _ _ _ h=>h) (Or.inl ⟨by rfl,?_⟩) ?_ ?_
        rotate_left
        ·intro w'
         go_simp
         with_reducible rfl
        rotate_left
        ·simp only [Act.put,List.setIfInBounds_toArray,List.set_cons_zero,List.set_cons_succ,i64_w,i32_w]
         rfl
        refine pure_ (i:=2) (N:=some 19) (v:=?_) (a':=?_) #[true,true,true,false,false,false,false,false,false,false] rfl rfl (any_of HT_.out (by kernel_rfl)) (fun _ _ _ h=>h) (Or.inl ⟨by rfl,?_⟩) ?_ ?_
        rotate_left
        ·intro w'
         go_simp
         with_reducible rfl
        rotate_left
        ·simp only [Act.put,List.setIfInBounds_toArray,List.set_cons_zero,List.set_cons_succ,i64_w,i32_w]
         rfl
        refine pure_ (i:=4) (N:=some 21) (v:=?_) (a':=?_) #[true,true,true,false,true,false,false,false,false,false] rfl rfl (any_of HT_.out (by kernel_rfl)) (fun _ _ _ h=>h) (Or.inl ⟨by rfl,?_⟩) ?_ ?_
        rotate_left
        ·intro w'
         go_simp
         with_reducible rfl
        rotate_left
        ·simp only [Act.put,List.setIfInBounds_toArray,List.set_cons_zero,List.set_cons_succ,i64_w,i32_w]
         rfl
        refine pure_ (i:=5) (N:=some 22) (v:=?_) (a':=?_) #[true,true,true,false,true,true,false,false,false,false] rfl rfl (any_of HT_.out (by kernel_rfl)) (fun _ _ _ h=>h) (Or.inl ⟨by rfl,?_⟩) ?_ ?_
        rotate_left
        ·intro w'
         go_simp
         with_reducible rfl
        rotate_left
        ·simp only [Act.put,List.setIfInBounds_toArray,List.set_cons_zero,List.set_cons_succ,i64_w,i32_w]
         rfl
        refine pure_ (i:=6) (N:=some 23) (v:=?_) (a':=?_) #[true,true,true,false,true,true,true,false,false,false] rfl rfl (any_of HT_.out (by kernel_rfl)) (fun _ _ _ h=>h) (Or.inl ⟨by rfl,?_⟩) ?_ ?_
        rotate_left
        ·intro w'
         go_simp
         with_reducible rfl
        rotate_left
        ·simp only [Act.put,List.setIfInBounds_toArray,List.set_cons_zero,List.set_cons_succ,i64_w,i32_w]
         rfl
        refine take_ (i:=3) (N:=some 20) (v:=?_) (a':=?_) #[true,true,true,true,true,true,true,false,false,false] rfl rfl (take_ofW HT_.out HW_.out (by kernel_rfl)) (fun _ _ _ h=>h) (Or.inl ⟨by rfl,?_⟩) hHeld ?_ ?_
        rotate_left
        ·rintro w' ⟨s0,s1,s2,s3,s4,s5,s6,s7,s8,s9,s10,s11⟩
         go_simp
         with_reducible rfl
        rotate_left
        ·simp only [Act.put,List.setIfInBounds_toArray,List.set_cons_zero,List.set_cons_succ,i64_w,i32_w]
         rfl
        refine take_ (i:=7) (N:=some 24) (v:=?_) (a':=?_) #[true,true,true,true,true,true,true,true,false,false] rfl rfl (take_ofW HT_.out HW_.out (by kernel_rfl)) (fun _ _ _ h=>h) (Or.inl ⟨by rfl,?_⟩) hHeld ?_ ?_
        rotate_left
        ·rintro w' ⟨s0,s1,s2,s3,s4,s5,s6,s7,s8,s9,s10,s11⟩
         go_simp
         with_reducible rfl
        rotate_left
        ·simp only [Act.put,List.setIfInBounds_toArray,List.set_cons_zero,List.set_cons_succ,i64_w,i32_w]
         rfl
        refine one_ (i:=8) (N:=some 25) #[true,true,true,true,true,true,true,true,true,false] rfl rfl (one_of HT_.out (by kernel_rfl)) (by decide) (fun K hK=>?_)
        refine goes_ Tryz.func30 (by kernel_rfl) rfl #[.agg #[.int .i64 ((rd_T57 l0 x5_1).f0),.int .i64 ((rd_T57 l0 x5_1).f1),.string ((rd_T57 l0 x5_1).f2),.slice A153_3 ((rd_T57 l0 x5_1).f3).length c153_3,.string ((rd_T57 l0 x5_1).f4),.int .i64 ((rd_T57 l0 x5_1).f5)],.agg #[.int .i64 ((rd_T57 l1 x5_1).f0),.int .i64 ((rd_T57 l1 x5_1).f1),.string ((rd_T57 l1 x5_1).f2),.slice A154_3 ((rd_T57 l1 x5_1).f3).length c154_3,.string ((rd_T57 l1 x5_1).f4),.int .i64 ((rd_T57 l1 x5_1).f5)]] (by rfl) rfl rfl (by (try simp only [List.map_toArray,List.map_cons,List.map_nil]);first|done|rfl|(simp only [List.length_drop,List.length_take];rfl)) ?_
        with_reducible refine (laws_eqNode.calls k1 ((rd_T57 l0 x5_1).f0) ((rd_T57 l0 x5_1).f1) ((rd_T57 l0 x5_1).f2) _ _ ((rd_T57 l0 x5_1).f3) ((rd_T57 l0 x5_1).f4) ((rd_T57 l0 x5_1).f5) ((rd_T57 l1 x5_1).f0) ((rd_T57 l1 x5_1).f1) ((rd_T57 l1 x5_1).f2) _ _ ((rd_T57 l1 x5_1).f3) ((rd_T57 l1 x5_1).f4) ((rd_T57 l1 x5_1).f5) true _ ?side1 ?side2 ?side3 ?side4 A7.out).mono ?_
        (case side1=>repeat (first|exact (Kd.C_below HR153_3.out HB.out)|(with_reducible refine Kd.C_alloc ?_ _)|(with_reducible refine Kd.C_drewN ?_ _)|(with_reducible refine Kd.C_drew ?_)))
        (case side2=>exact HC153_3.out)
        (case side3=>repeat (first|exact (Kd.C_below HR154_3.out HB.out)|(with_reducible refine Kd.C_alloc ?_ _)|(with_reducible refine Kd.C_drewN ?_ _)|(with_reducible refine Kd.C_drew ?_)))
        (case side4=>exact HC154_3.out)
        rintro e w10 ⟨rfl,hb⟩
        refine ⟨_,rfl,?_⟩
        have n0_:=Aside0.mk (below_step (by repeat (first|(with_reducible first|exact HB.out|apply below_alloc|apply pw_below_drewN|apply below_drew1)|exact HB.out)) hb)
        clear HB
        have HB:=n0_
        clear n0_
        (try clear hb)
        (try clear hb2)
        (try clear hk)
        (try clear hi)
        refine hK.out _ _ ⟨((HB.out.cell (World.block_lt_of_cell? w _ hw153_0)).trans hw153_0),((HB.out.cell (World.block_lt_of_cell? w _ hw153_1)).trans hw153_1),((HB.out.cell (World.block_lt_of_cell? w _ hw153_2)).trans hw153_2),((HB.out.cell (World.block_lt_of_cell? w _ hw153_3)).trans hw153_3),((HB.out.cell (World.block_lt_of_cell? w _ hw153_4)).trans hw153_4),((HB.out.cell (World.block_lt_of_cell? w _ hw153_5)).trans hw153_5),((HB.out.cell (World.block_lt_of_cell? w _ hw154_0)).trans hw154_0),((HB.out.cell (World.block_lt_of_cell? w _ hw154_1)).trans hw154_1),((HB.out.cell (World.block_lt_of_cell? w _ hw154_2)).trans hw154_2),((HB.out.cell (World.block_lt_of_cell? w _ hw154_3)).trans hw154_3),((HB.out.cell (World.block_lt_of_cell? w _ hw154_4)).trans hw154_4),((HB.out.cell (World.block_lt_of_cell? w _ hw154_5)).trans hw154_5)⟩ (fun hHeld=>?_)
        clear hK K
        refine norm_ (a':=?_) ?_ ?_
        rotate_left
        ·show Act.put _ (some 25) _=_
         simp only [Act.put,List.setIfInBounds_toArray,List.set_cons_zero,List.set_cons_succ,i64_w,i32_w]
         rfl
        refine pure_ (i:=9) (N:=some 26) (v:=?_) (a':=?_) #[true,true,true,true,true,true,true,true,true,true] rfl rfl (any_of HT_.out (by kernel_rfl)) (fun _ _ _ h=>h) (Or.inl ⟨by rfl,?_⟩) ?_ ?_
        rotate_left
        ·intro w'
         go_simp
         with_reducible rfl
        rotate_left
        ·simp only [Act.put,List.setIfInBounds_toArray,List.set_cons_zero,List.set_cons_succ,i64_w,i32_w]
         rfl
        refine done_ (done_of HT_.out (by kernel_rfl)) ?_
        try go_wp2
        go_roundg k1
        case measure=>have:=HK1.out;omega
        case rel=>exact ⟨(wrap64 (x5_1+1)),(by first|rfl|(simp;done)|(simp [*];done)),H',⟨by have:=HK1.out;omega⟩,⟨by repeat (first|(with_reducible first|exact HB.out|apply below_alloc|apply pw_below_drewN|apply below_drew1)|exact HB.out)⟩⟩
       ·replace c8:=Bool.eq_false_iff.mpr c8
        subst c8
        exact absurd H (by simp)
      ·rw [if_neg c6] at H
       exact absurd H (by simp)
     ·rw [if_neg c5] at H
      exact absurd H (by simp)
    ·rw [if_neg c4] at H
     have c4b0:decide (x5_1<(l0.length:Int))=false:=decide_eq_false c4
     clear c4
     obtain rfl:=Option.some.inj H
     go_wp2
     go_ret
     exact ⟨by first|rfl|(simp [errW_none,errW_some]<;>rfl)|(simp [*,errW_none,errW_some]<;>rfl),by repeat (first|(with_reducible first|exact HB.out|apply below_alloc|apply pw_below_drewN|apply below_drew1)|exact HB.out)⟩
 ·rw [if_neg c3] at H
  exact absurd H (by simp)
/-! ### laws_eqTree: function 9 -/
def laws_eqTree.f (k:Nat) (l0_0:List (S57)) (l1_0:List (S57)):Option (Bool):=(laws_eqNodeS.f k l0_0 l1_0).bind fun t158=>(if t158=true then (some true) else (none))
theorem laws_eqTree.mono:∀ a0 a1 k,LeO (laws_eqTree.f k a0 a1) (laws_eqTree.f (k+1) a0 a1):=by
 intro a0 a1 k
 unfold laws_eqTree.f
 repeat' first
   |(with_reducible exact laws_eqNodeS.mono _ _ _)
   |(with_reducible exact LeO.refl _)
   |(with_reducible exact LeO.none _)
   |(with_reducible refine LeO.ite ?_ ?_)
   |(with_reducible refine LeO.bind ?_ (fun _=>?_))
   |exact laws_eqNodeS.mono _ _ _
   |exact LeO.none _
   |refine LeO.ite ?_ ?_
   |refine LeO.bind ?_ (fun _=>?_)
set_option maxHeartbeats 8000000 in
set_option maxRecDepth 100000 in
theorem laws_eqTree.calls (k:Nat) (A0_0:Option Addr) (c0_0:Nat) (l0_0:List (S57)) (A1_0:Option Addr) (c1_0:Nat) (l1_0:List (S57)) (r:Bool) (w:World) (hr0_0:Kd.C k57 w A0_0 l0_0.length l0_0) (hc0_0:l0_0.length≤c0_0) (hr1_0:Kd.C k57 w A1_0 l1_0.length l1_0) (hc1_0:l1_0.length≤c1_0) (h:laws_eqTree.f k l0_0 l1_0=some r) :
  Calls Tryz.prog 9 #[.agg #[.slice A0_0 l0_0.length c0_0],.agg #[.slice A1_0 l1_0.length c1_0]] w fun e w'=>e=.returned (.bool r)∧Below w.heap.size w w':=by
 have hu29:=Tryz.underlying29
 have HR0_0:=Aside0.mk hr0_0
 have HC0_0:=Aside0.mk hc0_0
 clear hr0_0 hc0_0
 have HR1_0:=Aside0.mk hr1_0
 have HC1_0:=Aside0.mk hc1_0
 clear hr1_0 hc1_0
 have HB:=Aside0.mk (Below.refl w.heap.size w)
 have H:((laws_eqNodeS.f k l0_0 l1_0).bind fun t158=>(if t158=true then (some true) else (none)))=some r:=h
 clear h
 replace H:=Option.bind_eq_some_iff.mp H
 obtain ⟨t158,A30,H⟩:=H
 replace H:(if t158=true then (some true) else (none))=some r:=H
 have A3:=Aside0.mk A30
 clear A30
 by_cases c4:t158=true
 ·subst c4
  have H1:(some true)=some r:=by rw [if_pos rfl] at H;exact H
  clear H
  have H:=H1
  clear H1
  obtain rfl:=Option.some.inj H
  go_enter Tryz.func9,Tryz.ntmps9
  go_wp2_with (first|((with_reducible refine gate_dst (N:=2) rfl ?_);refine box_event ?hg (N:=2) ?hd (cs:=#[.slice A0_0 l0_0.length c0_0]) (t:=29) ?hr ?_;(case hd=>rfl);(case hg=>rfl);(case hr=>first|(go_simp;done)|(go_simp;rfl));intro gb156 hg w5 hbox hb;have n0_:=Aside0.mk (below_step (by repeat (first|(with_reducible first|exact HB.out|apply below_alloc|apply pw_below_drewN|apply below_drew1)|exact HB.out)) hb);have n1_:=Aside0.mk (hbox);have n2_:=Aside0.mk ((by rw [hg];exact (below_size (by repeat (first|(with_reducible first|exact HB.out|apply below_alloc|apply pw_below_drewN|apply below_drew1)|exact HB.out))):w.heap.size≤gb156));have n3_:=Aside0.mk ((by rw [hg];exact (below_size (by repeat (first|(with_reducible first|exact HB.out|apply below_alloc|apply pw_below_drewN|apply below_drew1)|exact HB.out))):w.heap.size≤gb156));clear HB;have HB:=n0_;have BK156:=n1_;have GW156:=n2_;have GE156:=n3_;clear n0_ n1_ n2_ n3_;clear hb hbox hg)|((with_reducible refine gate_dst (N:=3) rfl ?_);refine box_event ?hg (N:=3) ?hd (cs:=#[.slice A1_0 l1_0.length c1_0]) (t:=29) ?hr ?_;(case hd=>rfl);(case hg=>rfl);(case hr=>first|(go_simp;done)|(go_simp;rfl));intro gb157 hg w6 hbox hb;have n0_:=Aside0.mk (blk_below (g:=gb156) (o:=.cells #[.slice A0_0 l0_0.length c0_0] 29 (0,0)) (by (with_reducible repeat (first|refine blk_drewN ?_ _|refine blk_drew ?_|refine blk_alloc ?_ _));exact BK156.out) hb);have n1_:=Aside0.mk (below_step (by repeat (first|(with_reducible first|exact HB.out|apply below_alloc|apply pw_below_drewN|apply below_drew1|refine below_set ?_ GE156.out)|exact HB.out)) hb);have n2_:=Aside0.mk (hbox);have n3_:=Aside0.mk ((by rw [hg];exact (below_size (by repeat (first|(with_reducible first|exact HB.out|apply below_alloc|apply pw_below_drewN|apply below_drew1|refine below_set ?_ GE156.out)|exact HB.out))):w.heap.size≤gb157));have n4_:=Aside0.mk ((by rw [hg];exact (below_size (by repeat (first|(with_reducible first|exact HB.out|apply below_alloc|apply pw_below_drewN|apply below_drew1|refine below_set ?_ GE156.out)|exact HB.out))):w.heap.size≤gb157));have n5_:=Aside0.mk ((by rw [hg];exact Nat.ne_of_lt (blk_lt (g:=gb156) (o:=.cells #[.slice A0_0 l0_0.length c0_0] 29 (0,0)) (by (with_reducible repeat (first|refine blk_drewN ?_ _|refine blk_drew ?_|refine blk_alloc ?_ _));exact BK156.out)):gb156≠gb157));have n6_:=Aside0.mk ((by rw [hg];exact Nat.ne_of_gt (blk_lt (g:=gb156) (o:=.cells #[.slice A0_0 l0_0.length c0_0] 29 (0,0)) (by (with_reducible repeat (first|refine blk_drewN ?_ _|refine blk_drew ?_|refine blk_alloc ?_ _));exact BK156.out)):gb157≠gb156));clear BK156;clear HB;have BK156:=n0_;have HB:=n1_;have BK157:=n2_;have GW157:=n3_;have GE157:=n4_;have NB156_157:=n5_;have NB157_156:=n6_;clear n0_ n1_ n2_ n3_ n4_ n5_ n6_;clear hb hbox hg;have hnb7:=NB156_157.out;have hnc7:=NB157_156.out;have hcz8_0:w6.cell? ⟨gb156,0,none⟩=some (.slice A0_0 l0_0.length c0_0):=(blk_cell BK156.out 0).trans rfl;have hfz8_0:=blk_frozen BK156.out 0;have hcz9_0:w6.cell? ⟨gb157,0,none⟩=some (.slice A1_0 l1_0.length c1_0):=(blk_cell BK157.out 0).trans rfl;have hfz9_0:=blk_frozen BK157.out 0)|((with_reducible refine gate_callee (f:=20) rfl ?_);refine goesL_ (some 9) rfl rfl Tryz.func20 (by kernel_rfl) rfl #[.slice A0_0 l0_0.length c0_0,.slice A1_0 l1_0.length c1_0] rfl (by (try simp only [List.map_toArray,List.map_cons,List.map_nil]);first|done|rfl|(simp only [List.length_drop,List.length_take];rfl)) ?_;(with_reducible refine (laws_eqNodeS.calls k _ _ l0_0 _ _ l1_0 true _ ?side1 ?side2 ?side3 ?side4 A3.out).mono ?_);(case side1=>repeat (first|exact (Kd.C_below HR0_0.out HB.out)|(with_reducible refine Kd.C_alloc ?_ _)|(with_reducible refine Kd.C_drewN ?_ _)|(with_reducible refine Kd.C_drew ?_)));(case side2=>exact HC0_0.out);(case side3=>repeat (first|exact (Kd.C_below HR1_0.out HB.out)|(with_reducible refine Kd.C_alloc ?_ _)|(with_reducible refine Kd.C_drewN ?_ _)|(with_reducible refine Kd.C_drew ?_)));(case side4=>exact HC1_0.out);rintro e w10 ⟨rfl,hb⟩;refine ⟨_,rfl,?_⟩;have n0_:=Aside0.mk (blk_below (g:=gb156) (o:=.cells #[.slice A0_0 l0_0.length c0_0] 29 (0,0)) (by (with_reducible repeat (first|refine blk_drewN ?_ _|refine blk_drew ?_|refine blk_alloc ?_ _));exact BK156.out) hb);have n1_:=Aside0.mk (blk_below (g:=gb157) (o:=.cells #[.slice A1_0 l1_0.length c1_0] 29 (0,0)) (by (with_reducible repeat (first|refine blk_drewN ?_ _|refine blk_drew ?_|refine blk_alloc ?_ _));exact BK157.out) hb);have n2_:=Aside0.mk (below_step (by repeat (first|(with_reducible first|exact HB.out|apply below_alloc|apply pw_below_drewN|apply below_drew1|refine below_set ?_ GE156.out|refine below_set ?_ GE157.out)|exact HB.out)) hb);clear BK156;clear BK157;clear HB;have BK156:=n0_;have BK157:=n1_;have HB:=n2_;clear n0_ n1_ n2_;(try clear hb);(try clear hb2);(try clear hk);(try clear hi)))
  go_ret
  exact ⟨by first|rfl|(simp [errW_none,errW_some]<;>rfl)|(simp [*,errW_none,errW_some]<;>rfl),by repeat (first|(with_reducible first|exact HB.out|apply below_alloc|apply pw_below_drewN|apply below_drew1|refine below_set ?_ GE156.out|refine below_set ?_ GE157.out)|exact HB.out)⟩
 ·replace c4:=Bool.eq_false_iff.mpr c4
  subst c4
  exact absurd H (by simp)
/-! ### spec_l3Skip: function 23 -/
def spec_l3Skip.l0:Nat→List (S57)→Int→Int→Option (Int)
 |0,_,_,_=>none
 |k+1,x0,x1,x5=>if x5 > 0 then (if x1≥(x0.length:Int) then (some (-1)) else (if 0≤x1 then (if x1<(x0.length:Int) then (if ((rd_T57 x0 x1).f5)<0 then (some (-1)) else (if ((rd_T57 x0 x1).f5) > (x0.length:Int) then (some (-1)) else (spec_l3Skip.l0 k x0 (wrap64 (x1+1)) (wrap64 (x5+(wrap64 (((rd_T57 x0 x1).f5) - 1))))))) else (none)) else (none))) else (some x1)
def spec_l3Skip.f (k:Nat) (l0:List (S57)) (a1:Int):Option (Int):=spec_l3Skip.l0 k l0 a1 1
theorem spec_l3Skip.mono_l:∀ k,(∀ y0 y1 y2,LeO (spec_l3Skip.l0 k y0 y1 y2) (spec_l3Skip.l0 (k+1) y0 y1 y2))
 |0=>fun _ _ _ r h=>by simp [spec_l3Skip.l0] at h
 |k+1=>by
  have ih0:=spec_l3Skip.mono_l k
  ·intro y0 y1 y2
   unfold spec_l3Skip.l0
   repeat' first
   |(with_reducible exact ih0 _ _ _)
   |(with_reducible exact LeO.refl _)
   |(with_reducible exact LeO.none _)
   |(with_reducible refine LeO.ite ?_ ?_)
   |(with_reducible refine LeO.bind ?_ (fun _=>?_))
   |exact ih0 _ _ _
   |exact LeO.none _
   |refine LeO.ite ?_ ?_
   |refine LeO.bind ?_ (fun _=>?_)
theorem spec_l3Skip.mono:∀ a0 a1 k,LeO (spec_l3Skip.f k a0 a1) (spec_l3Skip.f (k+1) a0 a1):=by
 intro a0 a1 k
 have ih0:=spec_l3Skip.mono_l k
 unfold spec_l3Skip.f
 repeat' first
   |(with_reducible exact ih0 _ _ _)
   |(with_reducible exact LeO.refl _)
   |(with_reducible exact LeO.none _)
   |(with_reducible refine LeO.ite ?_ ?_)
   |(with_reducible refine LeO.bind ?_ (fun _=>?_))
   |exact ih0 _ _ _
   |exact LeO.none _
   |refine LeO.ite ?_ ?_
   |refine LeO.bind ?_ (fun _=>?_)
set_option maxHeartbeats 8000000 in
set_option maxRecDepth 100000 in
theorem spec_l3Skip.calls (k:Nat) (A0:Option Addr) (c0:Nat) (l0:List (S57)) (a1:Int) (r:Int) (w:World) (hr0:Kd.C k57 w A0 l0.length l0) (hc0:l0.length≤c0) (h:spec_l3Skip.f k l0 a1=some r) :
  Calls Tryz.prog 23 #[.slice A0 l0.length c0,.int .i64 a1] w fun e w'=>e=.returned (.int .i64 r)∧Drawn0 w w':=by
 have HR0:=Aside0.mk hr0
 have HC0:=Aside0.mk hc0
 clear hr0 hc0
 have H:(spec_l3Skip.l0 k l0 a1 1)=some r:=h
 clear h
 have H':=Aside0.mk H
 clear H
 go_enter Tryz.func23,Tryz.ntmps23
 go_wp2
 go_loopg [1,5] k (fun kq v1 v5 w'=>∃ (x1_1:Int) (x5_1:Int),v1=.int .i64 x1_1∧v5=.int .i64 x5_1∧Aside0 (spec_l3Skip.l0 kq l0 x1_1 x5_1=some r)∧Aside0 (kq≤k)∧Drawn0 w w')
 case atStart=>exact ⟨(a1),(1),(by first|rfl|(simp;done)|(simp [*];done)),(by first|rfl|(simp;done)|(simp [*];done)),H',⟨Nat.le_refl _⟩,by repeat (first|exact Drawn0.refl _|apply Drawn0.step)⟩
 case round=>
  clear H'
  try clear c2
  try clear p2
  obtain ⟨x1_1,x5_1,rfl,rfl,HA,HK1,⟨m1,rfl⟩⟩:=hrel
  cases gk with
  |zero=>exact absurd HA.out (by simp [spec_l3Skip.l0])
  |succ k1=>
   have H:=HA.out
   clear HA
   simp only [spec_l3Skip.l0] at H
   by_cases c3:x5_1 > 0
   ·rw [if_pos c3] at H
    have c3b0:decide (0<x5_1)=true:=decide_eq_true c3
    clear c3
    by_cases c4:x1_1≥(l0.length:Int)
    ·rw [if_pos c4] at H
     have c4b0:decide ((l0.length:Int)≤x1_1)=true:=decide_eq_true c4
     clear c4
     obtain rfl:=Option.some.inj H
     go_wp2
     go_ret
     exact ⟨by first|rfl|(simp;done)|(simp [*];done),by repeat (first|exact Drawn0.refl _|apply Drawn0.step)⟩
    ·rw [if_neg c4] at H
     have c4b0:decide ((l0.length:Int)≤x1_1)=false:=decide_eq_false c4
     clear c4
     by_cases c5:0≤x1_1
     ·rw [if_pos c5] at H
      have c5b0:decide (0≤x1_1)=true:=decide_eq_true c5
      clear c5
      by_cases c6:x1_1<(l0.length:Int)
      ·rw [if_pos c6] at H
       have c6b0:decide (x1_1<(l0.length:Int))=true:=decide_eq_true c6
       clear c6
       by_cases c7:((rd_T57 l0 x1_1).f5)<0
       ·rw [if_pos c7] at H
        have c7b0:decide (((rd_T57 l0 x1_1).f5)<0)=true:=decide_eq_true c7
        clear c7
        obtain rfl:=Option.some.inj H
        have p159:0≤(x1_1:Int):=of_decide_eq_true (by first|(with_reducible assumption)|assumption)
        have q159:x1_1<(l0.length:Int):=of_decide_eq_true (by first|(with_reducible assumption)|assumption)
        obtain ⟨ad159,A159_3,c159_3,e159,hx159_0,hx159_1,hx159_2,hx159_3,hx159_4,hx159_5,hl159_3,hi159_3⟩:=at_T57 HR0.out x1_1 p159 q159
        cases e159
        have HR159_3:=Aside0.mk hi159_3
        have HC159_3:=Aside0.mk hl159_3
        clear hi159_3 hl159_3
        replace p159:=eq_true p159
        replace q159:=eq_true q159
        go_wp2
        go_ret
        exact ⟨by first|rfl|(simp;done)|(simp [*];done),by repeat (first|exact Drawn0.refl _|apply Drawn0.step)⟩
       ·rw [if_neg c7] at H
        have c7b0:decide (((rd_T57 l0 x1_1).f5)<0)=false:=decide_eq_false c7
        clear c7
        by_cases c8:((rd_T57 l0 x1_1).f5) > (l0.length:Int)
        ·rw [if_pos c8] at H
         have c8b0:decide ((l0.length:Int)<((rd_T57 l0 x1_1).f5))=true:=decide_eq_true c8
         clear c8
         obtain rfl:=Option.some.inj H
         have p159:0≤(x1_1:Int):=of_decide_eq_true (by first|(with_reducible assumption)|assumption)
         have q159:x1_1<(l0.length:Int):=of_decide_eq_true (by first|(with_reducible assumption)|assumption)
         obtain ⟨ad159,A159_3,c159_3,e159,hx159_0,hx159_1,hx159_2,hx159_3,hx159_4,hx159_5,hl159_3,hi159_3⟩:=at_T57 HR0.out x1_1 p159 q159
         cases e159
         have HR159_3:=Aside0.mk hi159_3
         have HC159_3:=Aside0.mk hl159_3
         clear hi159_3 hl159_3
         replace p159:=eq_true p159
         replace q159:=eq_true q159
         have p160:0≤(x1_1:Int):=of_decide_eq_true (by first|(with_reducible assumption)|assumption)
         have q160:x1_1<(l0.length:Int):=of_decide_eq_true (by first|(with_reducible assumption)|assumption)
         obtain ⟨ad160,A160_3,c160_3,e160,hx160_0,hx160_1,hx160_2,hx160_3,hx160_4,hx160_5,hl160_3,hi160_3⟩:=at_T57 HR0.out x1_1 p160 q160
         obtain rfl:ad159=ad160:=(by injection e160)
         have HR160_3:=Aside0.mk hi160_3
         have HC160_3:=Aside0.mk hl160_3
         clear hi160_3 hl160_3
         replace p160:=eq_true p160
         replace q160:=eq_true q160
         have ea_:=Option.some.inj (hx159_3.symm.trans hx160_3)
         injection ea_ with ea_ en_ ec_
         subst ea_
         subst ec_
         clear en_
         go_wp2
         go_ret
         exact ⟨by first|rfl|(simp;done)|(simp [*];done),by repeat (first|exact Drawn0.refl _|apply Drawn0.step)⟩
        ·rw [if_neg c8] at H
         have c8b0:decide ((l0.length:Int)<((rd_T57 l0 x1_1).f5))=false:=decide_eq_false c8
         clear c8
         have H':=Aside0.mk H
         clear H
         have p159:0≤(x1_1:Int):=of_decide_eq_true (by first|(with_reducible assumption)|assumption)
         have q159:x1_1<(l0.length:Int):=of_decide_eq_true (by first|(with_reducible assumption)|assumption)
         obtain ⟨ad159,A159_3,c159_3,e159,hx159_0,hx159_1,hx159_2,hx159_3,hx159_4,hx159_5,hl159_3,hi159_3⟩:=at_T57 HR0.out x1_1 p159 q159
         cases e159
         have HR159_3:=Aside0.mk hi159_3
         have HC159_3:=Aside0.mk hl159_3
         clear hi159_3 hl159_3
         replace p159:=eq_true p159
         replace q159:=eq_true q159
         have p160:0≤(x1_1:Int):=of_decide_eq_true (by first|(with_reducible assumption)|assumption)
         have q160:x1_1<(l0.length:Int):=of_decide_eq_true (by first|(with_reducible assumption)|assumption)
         obtain ⟨ad160,A160_3,c160_3,e160,hx160_0,hx160_1,hx160_2,hx160_3,hx160_4,hx160_5,hl160_3,hi160_3⟩:=at_T57 HR0.out x1_1 p160 q160
         obtain rfl:ad159=ad160:=(by injection e160)
         have HR160_3:=Aside0.mk hi160_3
         have HC160_3:=Aside0.mk hl160_3
         clear hi160_3 hl160_3
         replace p160:=eq_true p160
         replace q160:=eq_true q160
         have ea_:=Option.some.inj (hx159_3.symm.trans hx160_3)
         injection ea_ with ea_ en_ ec_
         subst ea_
         subst ec_
         clear en_
         have p161:0≤(x1_1:Int):=of_decide_eq_true (by first|(with_reducible assumption)|assumption)
         have q161:x1_1<(l0.length:Int):=of_decide_eq_true (by first|(with_reducible assumption)|assumption)
         obtain ⟨ad161,A161_3,c161_3,e161,hx161_0,hx161_1,hx161_2,hx161_3,hx161_4,hx161_5,hl161_3,hi161_3⟩:=at_T57 HR0.out x1_1 p161 q161
         obtain rfl:ad159=ad161:=(by injection e161)
         have HR161_3:=Aside0.mk hi161_3
         have HC161_3:=Aside0.mk hl161_3
         clear hi161_3 hl161_3
         replace p161:=eq_true p161
         replace q161:=eq_true q161
         have ea_:=Option.some.inj (hx159_3.symm.trans hx161_3)
         injection ea_ with ea_ en_ ec_
         subst ea_
         subst ec_
         clear en_
         go_wp2
         go_roundg k1
         case measure=>have:=HK1.out;omega
         case rel=>exact ⟨(wrap64 (x1_1+1)),(wrap64 (x5_1+(wrap64 (((rd_T57 l0 x1_1).f5) - 1)))),(by first|rfl|(simp;done)|(simp [*];done)),(by first|rfl|(simp;done)|(simp [*];done)),H',⟨by have:=HK1.out;omega⟩,by repeat (first|exact Drawn0.refl _|apply Drawn0.step)⟩
      ·rw [if_neg c6] at H
       exact absurd H (by simp)
     ·rw [if_neg c5] at H
      exact absurd H (by simp)
   ·rw [if_neg c3] at H
    have c3b0:decide (0<x5_1)=false:=decide_eq_false c3
    clear c3
    obtain rfl:=Option.some.inj H
    go_wp2
    go_ret
    exact ⟨by first|rfl|(simp;done)|(simp [*];done),by repeat (first|exact Drawn0.refl _|apply Drawn0.step)⟩
/-! ### spec_l2Has: function 32 -/
def spec_l2Has.l0:Nat→List (S77)→ByteArray→Int→Option (Bool)
 |0,_,_,_=>none
 |k+1,x0,x1,x5=>if x5<(x0.length:Int) then (if 0≤x5 then (if ((rd_T77 x0 x5).f0).toList=x1.toList then (some true) else (spec_l2Has.l0 k x0 x1 (wrap64 (x5+1)))) else (none)) else (some false)
def spec_l2Has.f (k:Nat) (l0:List (S77)) (a1:ByteArray):Option (Bool):=spec_l2Has.l0 k l0 a1 0
theorem spec_l2Has.mono_l:∀ k,(∀ y0 y1 y2,LeO (spec_l2Has.l0 k y0 y1 y2) (spec_l2Has.l0 (k+1) y0 y1 y2))
 |0=>fun _ _ _ r h=>by simp [spec_l2Has.l0] at h
 |k+1=>by
  have ih0:=spec_l2Has.mono_l k
  ·intro y0 y1 y2
   unfold spec_l2Has.l0
   repeat' first
   |(with_reducible exact ih0 _ _ _)
   |(with_reducible exact LeO.refl _)
   |(with_reducible exact LeO.none _)
   |(with_reducible refine LeO.ite ?_ ?_)
   |(with_reducible refine LeO.bind ?_ (fun _=>?_))
   |exact ih0 _ _ _
   |exact LeO.none _
   |refine LeO.ite ?_ ?_
   |refine LeO.bind ?_ (fun _=>?_)
theorem spec_l2Has.mono:∀ a0 a1 k,LeO (spec_l2Has.f k a0 a1) (spec_l2Has.f (k+1) a0 a1):=by
 intro a0 a1 k
 have ih0:=spec_l2Has.mono_l k
 unfold spec_l2Has.f
 repeat' first
   |(with_reducible exact ih0 _ _ _)
   |(with_reducible exact LeO.refl _)
   |(with_reducible exact LeO.none _)
   |(with_reducible refine LeO.ite ?_ ?_)
   |(with_reducible refine LeO.bind ?_ (fun _=>?_))
   |exact ih0 _ _ _
   |exact LeO.none _
   |refine LeO.ite ?_ ?_
   |refine LeO.bind ?_ (fun _=>?_)
set_option maxHeartbeats 8000000 in
set_option maxRecDepth 100000 in
theorem spec_l2Has.calls (k:Nat) (A0:Option Addr) (c0:Nat) (l0:List (S77)) (a1:ByteArray) (r:Bool) (w:World) (hr0:Kd.C k77 w A0 l0.length l0) (hc0:l0.length≤c0) (h:spec_l2Has.f k l0 a1=some r) :
  Calls Tryz.prog 32 #[.slice A0 l0.length c0,.string a1] w fun e w'=>e=.returned (.bool r)∧Drawn0 w w':=by
 have HR0:=Aside0.mk hr0
 have HC0:=Aside0.mk hc0
 clear hr0 hc0
 have H:(spec_l2Has.l0 k l0 a1 0)=some r:=h
 clear h
 have H':=Aside0.mk H
 clear H
 go_enter Tryz.func32,Tryz.ntmps32
 go_wp2
 go_loopg [5] k (fun kq v5 w'=>∃ (x5_1:Int),v5=.int .i64 x5_1∧Aside0 (spec_l2Has.l0 kq l0 a1 x5_1=some r)∧Aside0 (kq≤k)∧Drawn0 w w')
 case atStart=>exact ⟨(0),(by first|rfl|(simp;done)|(simp [*];done)),H',⟨Nat.le_refl _⟩,by repeat (first|exact Drawn0.refl _|apply Drawn0.step)⟩
 case round=>
  clear H'
  try clear p2
  obtain ⟨x5_1,rfl,HA,HK1,⟨m1,rfl⟩⟩:=hrel
  cases gk with
  |zero=>exact absurd HA.out (by simp [spec_l2Has.l0])
  |succ k1=>
   have H:=HA.out
   clear HA
   simp only [spec_l2Has.l0] at H
   by_cases c3:x5_1<(l0.length:Int)
   ·rw [if_pos c3] at H
    have c3b0:decide (x5_1<(l0.length:Int))=true:=decide_eq_true c3
    clear c3
    by_cases c4:0≤x5_1
    ·rw [if_pos c4] at H
     have c4b0:decide (0≤x5_1)=true:=decide_eq_true c4
     clear c4
     by_cases c5:((rd_T77 l0 x5_1).f0).toList=a1.toList
     ·rw [if_pos c5] at H
      have c5b0:(((rd_T77 l0 x5_1).f0).toList==a1.toList)=true:=beq_iff_eq.mpr c5
      have c5b1:(((rd_T77 l0 x5_1).f0).toList != a1.toList)=false:=bne_eq_false_iff_eq.mpr c5
      clear c5
      obtain rfl:=Option.some.inj H
      have p162:0≤(x5_1:Int):=of_decide_eq_true (by first|(with_reducible assumption)|assumption)
      have q162:x5_1<(l0.length:Int):=of_decide_eq_true (by first|(with_reducible assumption)|assumption)
      obtain ⟨ad162,e162,hx162_0,hx162_1⟩:=at_T77 HR0.out x5_1 p162 q162
      cases e162
      replace p162:=eq_true p162
      replace q162:=eq_true q162
      go_wp2
      go_ret
      exact ⟨by first|rfl|(simp;done)|(simp [*];done),by repeat (first|exact Drawn0.refl _|apply Drawn0.step)⟩
     ·rw [if_neg c5] at H
      have c5b0:(((rd_T77 l0 x5_1).f0).toList==a1.toList)=false:=beq_eq_false_iff_ne.mpr c5
      have c5b1:(((rd_T77 l0 x5_1).f0).toList != a1.toList)=true:=bne_iff_ne.mpr c5
      have H':=Aside0.mk H
      clear H
      have p162:0≤(x5_1:Int):=of_decide_eq_true (by first|(with_reducible assumption)|assumption)
      have q162:x5_1<(l0.length:Int):=of_decide_eq_true (by first|(with_reducible assumption)|assumption)
      obtain ⟨ad162,e162,hx162_0,hx162_1⟩:=at_T77 HR0.out x5_1 p162 q162
      cases e162
      replace p162:=eq_true p162
      replace q162:=eq_true q162
      go_wp2
      go_roundg k1
      case measure=>have:=HK1.out;omega
      case rel=>exact ⟨(wrap64 (x5_1+1)),(by first|rfl|(simp;done)|(simp [*];done)),H',⟨by have:=HK1.out;omega⟩,by repeat (first|exact Drawn0.refl _|apply Drawn0.step)⟩
    ·rw [if_neg c4] at H
     exact absurd H (by simp)
   ·rw [if_neg c3] at H
    have c3b0:decide (x5_1<(l0.length:Int))=false:=decide_eq_false c3
    clear c3
    obtain rfl:=Option.some.inj H
    go_wp2
    go_ret
    exact ⟨by first|rfl|(simp;done)|(simp [*];done),by repeat (first|exact Drawn0.refl _|apply Drawn0.step)⟩
end Go.Proofs.YtjojmfhgfeflnaaGreatDoor.QFnExactInner
