/- Written by a program (wip/tools/own_print.py) out of the walk that the kit's printer made; turned where it fell. -/
-- PRINTED by print.py (a twelfth state) out of the translation. Not trusted: Lean checks it.
import Derived.Test.YtjojmfhgfeflnaaGreatDoorVriteX
import Derived.Test.YtjojmfhgfeflnaaGreatDoorQFnExactWritex0
import Derived.Test.YtjojmfhgfeflnaaGreatDoorQFnExactWritex1
import Derived.Test.YtjojmfhgfeflnaaGreatDoorQFnExactWritex5
import Derived.Test.YtjojmfhgfeflnaaGreatDoorQFnExactWritex8
import Derived.Test.YtjojmfhgfeflnaaGreatDoorQFnExactWritex9
namespace Go.Proofs.YtjojmfhgfeflnaaGreatDoor.QFnExactWrite
open Go.RowKit Go.Proofs.YtjojmfhgfeflnaaGreatDoorV.PrintWords Go.Proofs.YtjojmfhgfeflnaaGreatDoorV.PrintLast Go.Proofs.YtjojmfhgfeflnaaGreatDoorV.PrintMore
attribute [local go_sem] max2_int min2_int max_two min_two max_three min_three max_four min_four   -- for this text's walks alone
set_option linter.unusedVariables false
set_option linter.unusedSimpArgs false
/-! ### laws_eqNodeS: function 20 -/
def laws_eqNodeS.l0:Nat→List (S57)→List (S57)→Int→Option (Bool)
 |0,_,_,_=>none
 |k+1,x0,x1,x5=>if x5<(x0.length:Int) then (if 0≤x5 then (if x5<(x1.length:Int) then ((laws_eqNode.f k ((rd_T57 x0 x5).f0) ((rd_T57 x0 x5).f1) ((rd_T57 x0 x5).f2) ((rd_T57 x0 x5).f3) ((rd_T57 x0 x5).f4) ((rd_T57 x0 x5).f5) ((rd_T57 x1 x5).f0) ((rd_T57 x1 x5).f1) ((rd_T57 x1 x5).f2) ((rd_T57 x1 x5).f3) ((rd_T57 x1 x5).f4) ((rd_T57 x1 x5).f5)).bind fun t291=>(if t291=true then (laws_eqNodeS.l0 k x0 x1 (wrap64 (x5+1))) else (none))) else (none)) else (none)) else (some true)
def laws_eqNodeS.f (k:Nat) (l0:List (S57)) (l1:List (S57)):Option (Bool):=if (l0.length:Int)=(l1.length:Int) then (laws_eqNodeS.l0 k l0 l1 0) else (none)
theorem laws_eqNodeS.mono_l:∀ k,(∀ y0 y1 y2,LeO (laws_eqNodeS.l0 k y0 y1 y2) (laws_eqNodeS.l0 (k+1) y0 y1 y2))
 |0=>fun _ _ _ r h=>by simp [laws_eqNodeS.l0] at h
 |k+1=>by
  have ih0:=laws_eqNodeS.mono_l k
  ·intro y0 y1 y2
   unfold laws_eqNodeS.l0
   repeat' first
   |(with_reducible exact ih0 _ _ _)
   |(with_reducible exact laws_eqNode.mono _ _ _ _ _ _ _ _ _ _ _ _ _)
   |(with_reducible exact LeO.refl _)
   |(with_reducible exact LeO.none _)
   |(with_reducible refine LeO.ite ?_ ?_)
   |(with_reducible refine LeO.bind ?_ (fun _=>?_))
   |exact ih0 _ _ _
   |exact laws_eqNode.mono _ _ _ _ _ _ _ _ _ _ _ _ _
   |exact LeO.none _
   |refine LeO.ite ?_ ?_
   |refine LeO.bind ?_ (fun _=>?_)
theorem laws_eqNodeS.mono:∀ a0 a1 k,LeO (laws_eqNodeS.f k a0 a1) (laws_eqNodeS.f (k+1) a0 a1):=by
 intro a0 a1 k
 have ih0:=laws_eqNodeS.mono_l k
 unfold laws_eqNodeS.f
 repeat' first
   |(with_reducible exact ih0 _ _ _)
   |(with_reducible exact laws_eqNode.mono _ _ _ _ _ _ _ _ _ _ _ _ _)
   |(with_reducible exact LeO.refl _)
   |(with_reducible exact LeO.none _)
   |(with_reducible refine LeO.ite ?_ ?_)
   |(with_reducible refine LeO.bind ?_ (fun _=>?_))
   |exact ih0 _ _ _
   |exact laws_eqNode.mono _ _ _ _ _ _ _ _ _ _ _ _ _
   |exact LeO.none _
   |refine LeO.ite ?_ ?_
   |refine LeO.bind ?_ (fun _=>?_)
def laws_eqNodeS.T6:Bool×List (List Nat×List Nat):=(true,[([],[]),([],[]),([0,1],[0,1]),([2],[2]),([],[]),([],[]),([4,5],[4,5]),([6],[6]),([3,7],[3,7]),([8],[8])])
def laws_eqNodeS.B6:List Nat:=[0,0,3,7,0,0,48,112,255,511]
theorem laws_eqNodeS.tab6:rtab .any (opsOf Tryz.f20 6)=laws_eqNodeS.T6:=by kernel_rfl
theorem laws_eqNodeS.bits6:waitsOk laws_eqNodeS.T6.2 laws_eqNodeS.B6=true:=by kernel_rfl
set_option maxHeartbeats 8000000 in
set_option maxRecDepth 100000 in
theorem laws_eqNodeS.calls (k:Nat) (A0:Option Addr) (c0:Nat) (l0:List (S57)) (A1:Option Addr) (c1:Nat) (l1:List (S57)) (r:Bool) (w:World) (hr0:Kd.C k57 w A0 l0.length l0) (hc0:l0.length≤c0) (hr1:Kd.C k57 w A1 l1.length l1) (hc1:l1.length≤c1) (h:laws_eqNodeS.f k l0 l1=some r) :
  Calls Tryz.prog 20 #[.slice A0 l0.length c0,.slice A1 l1.length c1] w fun e w'=>e=.returned (.bool r)∧Below w.heap.size w w':=by
 have hu57:=Tryz.underlying57
 have HR0:=Aside0.mk hr0
 have HC0:=Aside0.mk hc0
 clear hr0 hc0
 have HR1:=Aside0.mk hr1
 have HC1:=Aside0.mk hc1
 clear hr1 hc1
 have HB:=Aside0.mk (Below.refl w.heap.size w)
 have H:(if (l0.length:Int)=(l1.length:Int) then (laws_eqNodeS.l0 k l0 l1 0) else (none))=some r:=h
 clear h
 by_cases c3:(l0.length:Int)=(l1.length:Int)
 ·rw [if_pos c3] at H
  have c3b0:((l0.length:Int)==(l1.length:Int))=true:=beq_iff_eq.mpr c3
  have c3b1:((l0.length:Int) != (l1.length:Int))=false:=bne_eq_false_iff_eq.mpr c3
  have c3b2:(l0.length==l1.length)=true:=by first|simpa using c3|(simp at c3 ⊢;omega)
  clear c3
  have H':=Aside0.mk H
  clear H
  go_enter Tryz.func20,Tryz.ntmps20
  go_wp2
  go_loopg [5] k (fun kq v5 w'=>∃ (x5_1:Int),v5=.int .i64 x5_1∧Aside0 (laws_eqNodeS.l0 kq l0 l1 x5_1=some r)∧Aside0 (kq≤k)∧Aside0 (Below w.heap.size w w'))
  case atStart=>exact ⟨(0),(by first|rfl|(simp;done)|(simp [*];done)),H',⟨Nat.le_refl _⟩,⟨by repeat (first|(with_reducible first|exact HB.out|apply below_alloc|apply pw_below_drewN|apply below_drew1)|exact HB.out)⟩⟩
  case round=>
   clear H'
   try clear c1
   try clear c2
   try clear p2
   try clear c3
   try clear c3b0
   try clear c3b1
   try clear c3b2
   obtain ⟨x5_1,rfl,HA,HK1,HB⟩:=hrel
   cases gk with
   |zero=>exact absurd HA.out (by simp [laws_eqNodeS.l0])
   |succ k1=>
    have H:=HA.out
    clear HA
    simp only [laws_eqNodeS.l0] at H
    by_cases c4:x5_1<(l0.length:Int)
    ·rw [if_pos c4] at H
     have c4b0:decide (x5_1<(l0.length:Int))=true:=decide_eq_true c4
     clear c4
     by_cases c5:0≤x5_1
     ·rw [if_pos c5] at H
      have c5b0:decide (0≤x5_1)=true:=decide_eq_true c5
      clear c5
      by_cases c6:x5_1<(l1.length:Int)
      ·rw [if_pos c6] at H
       have c6b0:decide (x5_1<(l1.length:Int))=true:=decide_eq_true c6
       clear c6
       replace H:=Option.bind_eq_some_iff.mp H
       obtain ⟨t291,A70,H⟩:=H
       replace H:(if t291=true then (laws_eqNodeS.l0 k1 l0 l1 (wrap64 (x5_1+1))) else (none))=some r:=H
       have A7:=Aside0.mk A70
       clear A70
       by_cases c8:t291=true
       ·subst c8
        have H1:(laws_eqNodeS.l0 k1 l0 l1 (wrap64 (x5_1+1)))=some r:=by rw [if_pos rfl] at H;exact H
        clear H
        have H:=H1
        clear H1
        have H':=Aside0.mk H
        clear H
        try go_wp2
        have n0_:=Aside0.mk (below_drew1 HB.out)
        clear HB
        have HB:=n0_
        clear n0_
        have p289:0≤(x5_1:Int):=of_decide_eq_true (by first|(with_reducible assumption)|assumption)
        have q289:x5_1<(l0.length:Int):=of_decide_eq_true (by first|(with_reducible assumption)|assumption)
        obtain ⟨ad289,A289_3,c289_3,e289,hx289_0,hx289_1,hx289_2,hx289_3,hx289_4,hx289_5,hl289_3,hi289_3⟩:=at_T57 HR0.out x5_1 p289 q289
        have hw289_5:=hx289_5
        have hw289_4:=hx289_4
        have hw289_3:=hx289_3
        have hw289_2:=hx289_2
        have hw289_1:=hx289_1
        have hw289_0:=hx289_0
        cases e289
        replace hx289_0:=(HB.out.cell (World.block_lt_of_cell? w _ hx289_0)).trans hx289_0
        replace hx289_1:=(HB.out.cell (World.block_lt_of_cell? w _ hx289_1)).trans hx289_1
        replace hx289_2:=(HB.out.cell (World.block_lt_of_cell? w _ hx289_2)).trans hx289_2
        replace hx289_3:=(HB.out.cell (World.block_lt_of_cell? w _ hx289_3)).trans hx289_3
        replace hx289_4:=(HB.out.cell (World.block_lt_of_cell? w _ hx289_4)).trans hx289_4
        replace hx289_5:=(HB.out.cell (World.block_lt_of_cell? w _ hx289_5)).trans hx289_5
        have HR289_3:=Aside0.mk hi289_3
        have HC289_3:=Aside0.mk hl289_3
        clear hi289_3 hl289_3
        replace p289:=eq_true p289
        replace q289:=eq_true q289
        have p290:0≤(x5_1:Int):=of_decide_eq_true (by first|(with_reducible assumption)|assumption)
        have q290:x5_1<(l1.length:Int):=of_decide_eq_true (by first|(with_reducible assumption)|assumption)
        obtain ⟨ad290,A290_3,c290_3,e290,hx290_0,hx290_1,hx290_2,hx290_3,hx290_4,hx290_5,hl290_3,hi290_3⟩:=at_T57 HR1.out x5_1 p290 q290
        have hw290_5:=hx290_5
        have hw290_4:=hx290_4
        have hw290_3:=hx290_3
        have hw290_2:=hx290_2
        have hw290_1:=hx290_1
        have hw290_0:=hx290_0
        cases e290
        replace hx290_0:=(HB.out.cell (World.block_lt_of_cell? w _ hx290_0)).trans hx290_0
        replace hx290_1:=(HB.out.cell (World.block_lt_of_cell? w _ hx290_1)).trans hx290_1
        replace hx290_2:=(HB.out.cell (World.block_lt_of_cell? w _ hx290_2)).trans hx290_2
        replace hx290_3:=(HB.out.cell (World.block_lt_of_cell? w _ hx290_3)).trans hx290_3
        replace hx290_4:=(HB.out.cell (World.block_lt_of_cell? w _ hx290_4)).trans hx290_4
        replace hx290_5:=(HB.out.cell (World.block_lt_of_cell? w _ hx290_5)).trans hx290_5
        have HR290_3:=Aside0.mk hi290_3
        have HC290_3:=Aside0.mk hl290_3
        clear hi290_3 hl290_3
        replace p290:=eq_true p290
        replace q290:=eq_true q290
        refine start_ (n:=10) (S:=fun w'=>w'.cell? (ad289.add ((x5_1).toNat*6))=some (.int .i64 ((rd_T57 l0 x5_1).f0))∧w'.cell? ⟨(ad289.add ((x5_1).toNat*6)).block,(ad289.add ((x5_1).toNat*6)).off+1,none⟩=some (.int .i64 ((rd_T57 l0 x5_1).f1))∧w'.cell? ⟨(ad289.add ((x5_1).toNat*6)).block,(ad289.add ((x5_1).toNat*6)).off+2,none⟩=some (.string ((rd_T57 l0 x5_1).f2))∧w'.cell? ⟨(ad289.add ((x5_1).toNat*6)).block,(ad289.add ((x5_1).toNat*6)).off+3,none⟩=some (.slice A289_3 ((rd_T57 l0 x5_1).f3).length c289_3)∧w'.cell? ⟨(ad289.add ((x5_1).toNat*6)).block,(ad289.add ((x5_1).toNat*6)).off+4,none⟩=some (.string ((rd_T57 l0 x5_1).f4))∧w'.cell? ⟨(ad289.add ((x5_1).toNat*6)).block,(ad289.add ((x5_1).toNat*6)).off+5,none⟩=some (.int .i64 ((rd_T57 l0 x5_1).f5))∧w'.cell? (ad290.add ((x5_1).toNat*6))=some (.int .i64 ((rd_T57 l1 x5_1).f0))∧w'.cell? ⟨(ad290.add ((x5_1).toNat*6)).block,(ad290.add ((x5_1).toNat*6)).off+1,none⟩=some (.int .i64 ((rd_T57 l1 x5_1).f1))∧w'.cell? ⟨(ad290.add ((x5_1).toNat*6)).block,(ad290.add ((x5_1).toNat*6)).off+2,none⟩=some (.string ((rd_T57 l1 x5_1).f2))∧w'.cell? ⟨(ad290.add ((x5_1).toNat*6)).block,(ad290.add ((x5_1).toNat*6)).off+3,none⟩=some (.slice A290_3 ((rd_T57 l1 x5_1).f3).length c290_3)∧w'.cell? ⟨(ad290.add ((x5_1).toNat*6)).block,(ad290.add ((x5_1).toNat*6)).off+4,none⟩=some (.string ((rd_T57 l1 x5_1).f4))∧w'.cell? ⟨(ad290.add ((x5_1).toNat*6)).block,(ad290.add ((x5_1).toNat*6)).off+5,none⟩=some (.int .i64 ((rd_T57 l1 x5_1).f5))) (ds:=[]) #[false,false,false,false,false,false,false,false,false,false] (by kernel_rfl) rfl rfl ⟨((HB.out.cell (World.block_lt_of_cell? w _ hw289_0)).trans hw289_0),((HB.out.cell (World.block_lt_of_cell? w _ hw289_1)).trans hw289_1),((HB.out.cell (World.block_lt_of_cell? w _ hw289_2)).trans hw289_2),((HB.out.cell (World.block_lt_of_cell? w _ hw289_3)).trans hw289_3),((HB.out.cell (World.block_lt_of_cell? w _ hw289_4)).trans hw289_4),((HB.out.cell (World.block_lt_of_cell? w _ hw289_5)).trans hw289_5),((HB.out.cell (World.block_lt_of_cell? w _ hw290_0)).trans hw290_0),((HB.out.cell (World.block_lt_of_cell? w _ hw290_1)).trans hw290_1),((HB.out.cell (World.block_lt_of_cell? w _ hw290_2)).trans hw290_2),((HB.out.cell (World.block_lt_of_cell? w _ hw290_3)).trans hw290_3),((HB.out.cell (World.block_lt_of_cell? w _ hw290_4)).trans hw290_4),((HB.out.cell (World.block_lt_of_cell? w _ hw290_5)).trans hw290_5)⟩ (fun hHeld=>?_);refine with_tabW laws_eqNodeS.tab6 laws_eqNodeS.bits6 (fun HT_ HW_=>?_)
        generalize wr.drew=w9 at HB HR289_3 HR290_3 hx289_0 hx289_1 hx289_2 hx289_3 hx289_4 hx289_5 hx290_0 hx290_1 hx290_2 hx290_3 hx290_4 hx290_5 hHeld ⊢
        refine pure_ (i:=0) (N:=some 17) (v:=?_) (a':=?_) #[true,false,false,false,false,false,false,false,false,false] rfl rfl (any_of HT_.out (by kernel_rfl)) (fun _ _ _ h=>h) (Or.inl ⟨by rfl,?_⟩) ?_ ?_
        rotate_left
        ·intro w'
         go_simp
         with_reducible rfl
        rotate_left
        ·simp only [Act.put,List.setIfInBounds_toArray,List.set_cons_zero,List.set_cons_succ,i64_w,i32_w]
         rfl
        refine pure_ (i:=1) (N:=some 18) (v:=?_) (a':=?_) #[true,true,false,false,false,false,false,false,false,false] rfl rfl (any_of HT_.out (by kernel_rfl)) (fun _ _ _ h=>h) (Or.inl ⟨by rfl,?_⟩) ?_ ?_
        rotate_left
        ·intro w'
         go_simp
         with_reducible rfl
        rotate_left
        ·simp only [Act.put,List.setIfInBounds_toArray,List.set_cons_zero,List.set_cons_succ,i64_w,i32_w]
         rfl
        refine pure_ (i:=2) (N:=some 19) (v:=?_) (a':=?_) #[true,true,true,false,false,false,false,false,false,false] rfl rfl (any_of HT_.out (by kernel_rfl)) (fun _ _ _ h=>h) (Or.inl ⟨by rfl,?_⟩) ?_ ?_
        rotate_left
        ·intro w'
         go_simp
         with_reducible rfl
        rotate_left
        ·simp only [Act.put,List.setIfInBounds_toArray,List.set_cons_zero,List.set_cons_succ,i64_w,i32_w]
         rfl
        refine pure_ (i:=4) (N:=some 21) (v:=?_) (a':=?_) #[true,true,true,false,true,false,false,false,false,false] rfl rfl (any_of HT_.out (by kernel_rfl)) (fun _ _ _ h=>h) (Or.inl ⟨by rfl,?_⟩) ?_ ?_
        rotate_left
        ·intro w'
         go_simp
         with_reducible rfl
        rotate_left
        ·simp only [Act.put,List.setIfInBounds_toArray,List.set_cons_zero,List.set_cons_succ,i64_w,i32_w]
         rfl
        refine pure_ (i:=5) (N:=some 22) (v:=?_) (a':=?_) #[true,true,true,false,true,true,false,false,false,false] rfl rfl (any_of HT_.out (by kernel_rfl)) (fun _ _ _ h=>h) (Or.inl ⟨by rfl,?_⟩) ?_ ?_
        rotate_left
        ·intro w'
         go_simp
         with_reducible rfl
        rotate_left
        ·simp only [Act.put,List.setIfInBounds_toArray,List.set_cons_zero,List.set_cons_succ,i64_w,i32_w]
         rfl
        refine pure_ (i:=6) (N:=some 23) (v:=?_) (a':=?_) #[true,true,true,false,true,true,true,false,false,false] rfl rfl (any_of HT_.out (by kernel_rfl)) (fun _ _ _ h=>h) (Or.inl ⟨by rfl,?_⟩) ?_ ?_
        rotate_left
        ·intro w'
         go_simp
         with_reducible rfl
        rotate_left
        ·simp only [Act.put,List.setIfInBounds_toArray,List.set_cons_zero,List.set_cons_succ,i64_w,i32_w]
         rfl
        refine take_ (i:=3) (N:=some 20) (v:=?_) (a':=?_) #[true,true,true,true,true,true,true,false,false,false] rfl rfl (take_ofW HT_.out HW_.out (by kernel_rfl)) (fun _ _ _ h=>h) (Or.inl ⟨by rfl,?_⟩) hHeld ?_ ?_
        rotate_left
        ·rintro w' ⟨s0,s1,s2,s3,s4,s5,s6,s7,s8,s9,s10,s11⟩
         go_simp
         with_reducible rfl
        rotate_left
        ·simp only [Act.put,List.setIfInBounds_toArray,List.set_cons_zero,List.set_cons_succ,i64_w,i32_w]
         rfl
        refine take_ (i:=7) (N:=some 24) (v:=?_) (a':=?_) #[true,true,true,true,true,true,true,true,false,false] rfl rfl (take_ofW HT_.out HW_.out (by kernel_rfl)) (fun _ _ _ h=>h) (Or.inl ⟨by rfl,?_⟩) hHeld ?_ ?_
        rotate_left
        ·rintro w' ⟨s0,s1,s2,s3,s4,s5,s6,s7,s8,s9,s10,s11⟩
         go_simp
         with_reducible rfl
        rotate_left
        ·simp only [Act.put,List.setIfInBounds_toArray,List.set_cons_zero,List.set_cons_succ,i64_w,i32_w]
         rfl
        refine one_ (i:=8) (N:=some 25) #[true,true,true,true,true,true,true,true,true,false] rfl rfl (one_of HT_.out (by kernel_rfl)) (by decide) (fun K hK=>?_)
        refine goes_ Tryz.func30 (by kernel_rfl) rfl #[.agg #[.int .i64 ((rd_T57 l0 x5_1).f0),.int .i64 ((rd_T57 l0 x5_1).f1),.string ((rd_T57 l0 x5_1).f2),.slice A289_3 ((rd_T57 l0 x5_1).f3).length c289_3,.string ((rd_T57 l0 x5_1).f4),.int .i64 ((rd_T57 l0 x5_1).f5)],.agg #[.int .i64 ((rd_T57 l1 x5_1).f0),.int .i64 ((rd_T57 l1 x5_1).f1),.string ((rd_T57 l1 x5_1).f2),.slice A290_3 ((rd_T57 l1 x5_1).f3).length c290_3,.string ((rd_T57 l1 x5_1).f4),.int .i64 ((rd_T57 l1 x5_1).f5)]] (by rfl) rfl rfl (by (try simp only [List.map_toArray,List.map_cons,List.map_nil]);first|done|rfl|(simp only [List.length_drop,List.length_take];rfl)) ?_
        with_reducible refine (laws_eqNode.calls k1 ((rd_T57 l0 x5_1).f0) ((rd_T57 l0 x5_1).f1) ((rd_T57 l0 x5_1).f2) _ _ ((rd_T57 l0 x5_1).f3) ((rd_T57 l0 x5_1).f4) ((rd_T57 l0 x5_1).f5) ((rd_T57 l1 x5_1).f0) ((rd_T57 l1 x5_1).f1) ((rd_T57 l1 x5_1).f2) _ _ ((rd_T57 l1 x5_1).f3) ((rd_T57 l1 x5_1).f4) ((rd_T57 l1 x5_1).f5) true _ ?side1 ?side2 ?side3 ?side4 A7.out).mono ?_
        (case side1=>repeat (first|exact (Kd.C_below HR289_3.out HB.out)|(with_reducible refine Kd.C_alloc ?_ _)|(with_reducible refine Kd.C_drewN ?_ _)|(with_reducible refine Kd.C_drew ?_)))
        (case side2=>exact HC289_3.out)
        (case side3=>repeat (first|exact (Kd.C_below HR290_3.out HB.out)|(with_reducible refine Kd.C_alloc ?_ _)|(with_reducible refine Kd.C_drewN ?_ _)|(with_reducible refine Kd.C_drew ?_)))
        (case side4=>exact HC290_3.out)
        rintro e w10 ⟨rfl,hb⟩
        refine ⟨_,rfl,?_⟩
        have n0_:=Aside0.mk (below_step (by repeat (first|(with_reducible first|exact HB.out|apply below_alloc|apply pw_below_drewN|apply below_drew1)|exact HB.out)) hb)
        clear HB
        have HB:=n0_
        clear n0_
        (try clear hb)
        (try clear hb2)
        (try clear hk)
        (try clear hi)
        refine hK.out _ _ ⟨((HB.out.cell (World.block_lt_of_cell? w _ hw289_0)).trans hw289_0),((HB.out.cell (World.block_lt_of_cell? w _ hw289_1)).trans hw289_1),((HB.out.cell (World.block_lt_of_cell? w _ hw289_2)).trans hw289_2),((HB.out.cell (World.block_lt_of_cell? w _ hw289_3)).trans hw289_3),((HB.out.cell (World.block_lt_of_cell? w _ hw289_4)).trans hw289_4),((HB.out.cell (World.block_lt_of_cell? w _ hw289_5)).trans hw289_5),((HB.out.cell (World.block_lt_of_cell? w _ hw290_0)).trans hw290_0),((HB.out.cell (World.block_lt_of_cell? w _ hw290_1)).trans hw290_1),((HB.out.cell (World.block_lt_of_cell? w _ hw290_2)).trans hw290_2),((HB.out.cell (World.block_lt_of_cell? w _ hw290_3)).trans hw290_3),((HB.out.cell (World.block_lt_of_cell? w _ hw290_4)).trans hw290_4),((HB.out.cell (World.block_lt_of_cell? w _ hw290_5)).trans hw290_5)⟩ (fun hHeld=>?_)
        clear hK K
        refine norm_ (a':=?_) ?_ ?_
        rotate_left
        ·show Act.put _ (some 25) _=_
         simp only [Act.put,List.setIfInBounds_toArray,List.set_cons_zero,List.set_cons_succ,i64_w,i32_w]
         rfl
        refine pure_ (i:=9) (N:=some 26) (v:=?_) (a':=?_) #[true,true,true,true,true,true,true,true,true,true] rfl rfl (any_of HT_.out (by kernel_rfl)) (fun _ _ _ h=>h) (Or.inl ⟨by rfl,?_⟩) ?_ ?_
        rotate_left
        ·intro w'
         go_simp
         with_reducible rfl
        rotate_left
        ·simp only [Act.put,List.setIfInBounds_toArray,List.set_cons_zero,List.set_cons_succ,i64_w,i32_w]
         rfl
        refine done_ (done_of HT_.out (by kernel_rfl)) ?_
        try go_wp2
        go_roundg k1
        case measure=>have:=HK1.out;omega
        case rel=>exact ⟨(wrap64 (x5_1+1)),(by first|rfl|(simp;done)|(simp [*];done)),H',⟨by have:=HK1.out;omega⟩,⟨by repeat (first|(with_reducible first|exact HB.out|apply below_alloc|apply pw_below_drewN|apply below_drew1)|exact HB.out)⟩⟩
       ·replace c8:=Bool.eq_false_iff.mpr c8
        subst c8
        exact absurd H (by simp)
      ·rw [if_neg c6] at H
       exact absurd H (by simp)
     ·rw [if_neg c5] at H
      exact absurd H (by simp)
    ·rw [if_neg c4] at H
     have c4b0:decide (x5_1<(l0.length:Int))=false:=decide_eq_false c4
     clear c4
     obtain rfl:=Option.some.inj H
     go_wp2
     go_ret
     exact ⟨by first|rfl|(simp [errW_none,errW_some]<;>rfl)|(simp [*,errW_none,errW_some]<;>rfl),by repeat (first|(with_reducible first|exact HB.out|apply below_alloc|apply pw_below_drewN|apply below_drew1)|exact HB.out)⟩
 ·rw [if_neg c3] at H
  exact absurd H (by simp)
/-! ### laws_eqTree: function 9 -/
def laws_eqTree.f (k:Nat) (l0_0:List (S57)) (l1_0:List (S57)):Option (Bool):=(laws_eqNodeS.f k l0_0 l1_0).bind fun t294=>(if t294=true then (some true) else (none))
theorem laws_eqTree.mono:∀ a0 a1 k,LeO (laws_eqTree.f k a0 a1) (laws_eqTree.f (k+1) a0 a1):=by
 intro a0 a1 k
 unfold laws_eqTree.f
 repeat' first
   |(with_reducible exact laws_eqNodeS.mono _ _ _)
   |(with_reducible exact LeO.refl _)
   |(with_reducible exact LeO.none _)
   |(with_reducible refine LeO.ite ?_ ?_)
   |(with_reducible refine LeO.bind ?_ (fun _=>?_))
   |exact laws_eqNodeS.mono _ _ _
   |exact LeO.none _
   |refine LeO.ite ?_ ?_
   |refine LeO.bind ?_ (fun _=>?_)
set_option maxHeartbeats 8000000 in
set_option maxRecDepth 100000 in
theorem laws_eqTree.calls (k:Nat) (A0_0:Option Addr) (c0_0:Nat) (l0_0:List (S57)) (A1_0:Option Addr) (c1_0:Nat) (l1_0:List (S57)) (r:Bool) (w:World) (hr0_0:Kd.C k57 w A0_0 l0_0.length l0_0) (hc0_0:l0_0.length≤c0_0) (hr1_0:Kd.C k57 w A1_0 l1_0.length l1_0) (hc1_0:l1_0.length≤c1_0) (h:laws_eqTree.f k l0_0 l1_0=some r) :
  Calls Tryz.prog 9 #[.agg #[.slice A0_0 l0_0.length c0_0],.agg #[.slice A1_0 l1_0.length c1_0]] w fun e w'=>e=.returned (.bool r)∧Below w.heap.size w w':=by
 have hu29:=Tryz.underlying29
 have HR0_0:=Aside0.mk hr0_0
 have HC0_0:=Aside0.mk hc0_0
 clear hr0_0 hc0_0
 have HR1_0:=Aside0.mk hr1_0
 have HC1_0:=Aside0.mk hc1_0
 clear hr1_0 hc1_0
 have HB:=Aside0.mk (Below.refl w.heap.size w)
 have H:((laws_eqNodeS.f k l0_0 l1_0).bind fun t294=>(if t294=true then (some true) else (none)))=some r:=h
 clear h
 replace H:=Option.bind_eq_some_iff.mp H
 obtain ⟨t294,A30,H⟩:=H
 replace H:(if t294=true then (some true) else (none))=some r:=H
 have A3:=Aside0.mk A30
 clear A30
 by_cases c4:t294=true
 ·subst c4
  have H1:(some true)=some r:=by rw [if_pos rfl] at H;exact H
  clear H
  have H:=H1
  clear H1
  obtain rfl:=Option.some.inj H
  go_enter Tryz.func9,Tryz.ntmps9
  go_wp2_with (first|((with_reducible refine gate_dst (N:=2) rfl ?_);refine box_event ?hg (N:=2) ?hd (cs:=#[.slice A0_0 l0_0.length c0_0]) (t:=29) ?hr ?_;(case hd=>rfl);(case hg=>rfl);(case hr=>first|(go_simp;done)|(go_simp;rfl));intro gb292 hg w5 hbox hb;have n0_:=Aside0.mk (below_step (by repeat (first|(with_reducible first|exact HB.out|apply below_alloc|apply pw_below_drewN|apply below_drew1)|exact HB.out)) hb);have n1_:=Aside0.mk (hbox);have n2_:=Aside0.mk ((by rw [hg];exact (below_size (by repeat (first|(with_reducible first|exact HB.out|apply below_alloc|apply pw_below_drewN|apply below_drew1)|exact HB.out))):w.heap.size≤gb292));have n3_:=Aside0.mk ((by rw [hg];exact (below_size (by repeat (first|(with_reducible first|exact HB.out|apply below_alloc|apply pw_below_drewN|apply below_drew1)|exact HB.out))):w.heap.size≤gb292));clear HB;have HB:=n0_;have BK292:=n1_;have GW292:=n2_;have GE292:=n3_;clear n0_ n1_ n2_ n3_;clear hb hbox hg)|((with_reducible refine gate_dst (N:=3) rfl ?_);refine box_event ?hg (N:=3) ?hd (cs:=#[.slice A1_0 l1_0.length c1_0]) (t:=29) ?hr ?_;(case hd=>rfl);(case hg=>rfl);(case hr=>first|(go_simp;done)|(go_simp;rfl));intro gb293 hg w6 hbox hb;have n0_:=Aside0.mk (blk_below (g:=gb292) (o:=.cells #[.slice A0_0 l0_0.length c0_0] 29 (0,0)) (by (with_reducible repeat (first|refine blk_drewN ?_ _|refine blk_drew ?_|refine blk_alloc ?_ _));exact BK292.out) hb);have n1_:=Aside0.mk (below_step (by repeat (first|(with_reducible first|exact HB.out|apply below_alloc|apply pw_below_drewN|apply below_drew1|refine below_set ?_ GE292.out)|exact HB.out)) hb);have n2_:=Aside0.mk (hbox);have n3_:=Aside0.mk ((by rw [hg];exact (below_size (by repeat (first|(with_reducible first|exact HB.out|apply below_alloc|apply pw_below_drewN|apply below_drew1|refine below_set ?_ GE292.out)|exact HB.out))):w.heap.size≤gb293));have n4_:=Aside0.mk ((by rw [hg];exact (below_size (by repeat (first|(with_reducible first|exact HB.out|apply below_alloc|apply pw_below_drewN|apply below_drew1|refine below_set ?_ GE292.out)|exact HB.out))):w.heap.size≤gb293));have n5_:=Aside0.mk ((by rw [hg];exact Nat.ne_of_lt (blk_lt (g:=gb292) (o:=.cells #[.slice A0_0 l0_0.length c0_0] 29 (0,0)) (by (with_reducible repeat (first|refine blk_drewN ?_ _|refine blk_drew ?_|refine blk_alloc ?_ _));exact BK292.out)):gb292≠gb293));have n6_:=Aside0.mk ((by rw [hg];exact Nat.ne_of_gt (blk_lt (g:=gb292) (o:=.cells #[.slice A0_0 l0_0.length c0_0] 29 (0,0)) (by (with_reducible repeat (first|refine blk_drewN ?_ _|refine blk_drew ?_|refine blk_alloc ?_ _));exact BK292.out)):gb293≠gb292));clear BK292;clear HB;have BK292:=n0_;have HB:=n1_;have BK293:=n2_;have GW293:=n3_;have GE293:=n4_;have NB292_293:=n5_;have NB293_292:=n6_;clear n0_ n1_ n2_ n3_ n4_ n5_ n6_;clear hb hbox hg;have hnb7:=NB292_293.out;have hnc7:=NB293_292.out;have hcz8_0:w6.cell? ⟨gb292,0,none⟩=some (.slice A0_0 l0_0.length c0_0):=(blk_cell BK292.out 0).trans rfl;have hfz8_0:=blk_frozen BK292.out 0;have hcz9_0:w6.cell? ⟨gb293,0,none⟩=some (.slice A1_0 l1_0.length c1_0):=(blk_cell BK293.out 0).trans rfl;have hfz9_0:=blk_frozen BK293.out 0)|((with_reducible refine gate_callee (f:=20) rfl ?_);refine goesL_ (some 9) rfl rfl Tryz.func20 (by kernel_rfl) rfl #[.slice A0_0 l0_0.length c0_0,.slice A1_0 l1_0.length c1_0] rfl (by (try simp only [List.map_toArray,List.map_cons,List.map_nil]);first|done|rfl|(simp only [List.length_drop,List.length_take];rfl)) ?_;(with_reducible refine (laws_eqNodeS.calls k _ _ l0_0 _ _ l1_0 true _ ?side1 ?side2 ?side3 ?side4 A3.out).mono ?_);(case side1=>repeat (first|exact (Kd.C_below HR0_0.out HB.out)|(with_reducible refine Kd.C_alloc ?_ _)|(with_reducible refine Kd.C_drewN ?_ _)|(with_reducible refine Kd.C_drew ?_)));(case side2=>exact HC0_0.out);(case side3=>repeat (first|exact (Kd.C_below HR1_0.out HB.out)|(with_reducible refine Kd.C_alloc ?_ _)|(with_reducible refine Kd.C_drewN ?_ _)|(with_reducible refine Kd.C_drew ?_)));(case side4=>exact HC1_0.out);rintro e w10 ⟨rfl,hb⟩;refine ⟨_,rfl,?_⟩;have n0_:=Aside0.mk (blk_below (g:=gb292) (o:=.cells #[.slice A0_0 l0_0.length c0_0] 29 (0,0)) (by (with_reducible repeat (first|refine blk_drewN ?_ _|refine blk_drew ?_|refine blk_alloc ?_ _));exact BK292.out) hb);have n1_:=Aside0.mk (blk_below (g:=gb293) (o:=.cells #[.slice A1_0 l1_0.length c1_0] 29 (0,0)) (by (with_reducible repeat (first|refine blk_drewN ?_ _|refine blk_drew ?_|refine blk_alloc ?_ _));exact BK293.out) hb);have n2_:=Aside0.mk (below_step (by repeat (first|(with_reducible first|exact HB.out|apply below_alloc|apply pw_below_drewN|apply below_drew1|refine below_set ?_ GE292.out|refine below_set ?_ GE293.out)|exact HB.out)) hb);clear BK292;clear BK293;clear HB;have BK292:=n0_;have BK293:=n1_;have HB:=n2_;clear n0_ n1_ n2_;(try clear hb);(try clear hb2);(try clear hk);(try clear hi)))
  go_ret
  exact ⟨by first|rfl|(simp [errW_none,errW_some]<;>rfl)|(simp [*,errW_none,errW_some]<;>rfl),by repeat (first|(with_reducible first|exact HB.out|apply below_alloc|apply pw_below_drewN|apply below_drew1|refine below_set ?_ GE292.out|refine below_set ?_ GE293.out)|exact HB.out)⟩
 ·replace c4:=Bool.eq_false_iff.mpr c4
  subst c4
  exact absurd H (by simp)
/-! ### laws_FnExactWrite: function 3 -/
noncomputable def laws_FnExactWrite.f (k:Nat) (l0_0:List (S63)):Option (Bool):=(laws_szTree.f k l0_0 1048576).bind fun t296=>(if t296<0 then (some true) else ((laws_toTree.f k l0_0).bind fun t297=>((spec_Write.f k t297).bind fun t300=>((laws_toTree.f k l0_0).bind fun t301=>((impl_Write.f k t301).bind fun t305=>(if t305.toList=t300.toList then ((laws_toTree.f k l0_0).bind fun t306=>((laws_eqTree.f k t301 t306).bind fun t309=>(if t309=true then (some true) else (none)))) else (none)))))))
theorem laws_FnExactWrite.mono:∀ a0 k,LeO (laws_FnExactWrite.f k a0) (laws_FnExactWrite.f (k+1) a0):=by
 intro a0 k
 unfold laws_FnExactWrite.f
 repeat' first
   |(with_reducible exact impl_Write.mono _ _)
   |(with_reducible exact laws_eqTree.mono _ _ _)
   |(with_reducible exact laws_szTree.mono _ _ _)
   |(with_reducible exact laws_toTree.mono _ _)
   |(with_reducible exact spec_Write.mono _ _)
   |(with_reducible exact LeO.refl _)
   |(with_reducible exact LeO.none _)
   |(with_reducible refine LeO.ite ?_ ?_)
   |(with_reducible refine LeO.bind ?_ (fun _=>?_))
   |exact impl_Write.mono _ _
   |exact laws_eqTree.mono _ _ _
   |exact laws_szTree.mono _ _ _
   |exact laws_toTree.mono _ _
   |exact spec_Write.mono _ _
   |exact LeO.none _
   |refine LeO.ite ?_ ?_
   |refine LeO.bind ?_ (fun _=>?_)
set_option maxHeartbeats 8000000 in
set_option maxRecDepth 100000 in
theorem laws_FnExactWrite.calls (k:Nat) (A0_0:Option Addr) (c0_0:Nat) (l0_0:List (S63)) (r:Bool) (w:World) (hr0_0:Kd.C k63 w A0_0 l0_0.length l0_0) (hc0_0:l0_0.length≤c0_0) (hg:STab w) (h:laws_FnExactWrite.f k l0_0=some r) :
  Calls Tryz.prog 3 #[.agg #[.slice A0_0 l0_0.length c0_0]] w fun e w'=>e=.returned (.bool r)∧Below w.heap.size w w':=by
 have hu24:=Tryz.underlying24
 have hu29:=Tryz.underlying29
 have HR0_0:=Aside0.mk hr0_0
 have HC0_0:=Aside0.mk hc0_0
 have HGT:=Aside0.mk hg
 clear hr0_0 hc0_0 hg
 have HB:=Aside0.mk (Below.refl w.heap.size w)
 have H:((laws_szTree.f k l0_0 1048576).bind fun t296=>(if t296<0 then (some true) else ((laws_toTree.f k l0_0).bind fun t297=>((spec_Write.f k t297).bind fun t300=>((laws_toTree.f k l0_0).bind fun t301=>((impl_Write.f k t301).bind fun t305=>(if t305.toList=t300.toList then ((laws_toTree.f k l0_0).bind fun t306=>((laws_eqTree.f k t301 t306).bind fun t309=>(if t309=true then (some true) else (none)))) else (none))))))))=some r:=h
 clear h
 replace H:=Option.bind_eq_some_iff.mp H
 obtain ⟨t296,A20,H⟩:=H
 replace H:(if t296<0 then (some true) else ((laws_toTree.f k l0_0).bind fun t297=>((spec_Write.f k t297).bind fun t300=>((laws_toTree.f k l0_0).bind fun t301=>((impl_Write.f k t301).bind fun t305=>(if t305.toList=t300.toList then ((laws_toTree.f k l0_0).bind fun t306=>((laws_eqTree.f k t301 t306).bind fun t309=>(if t309=true then (some true) else (none)))) else (none)))))))=some r:=H
 have A2:=Aside0.mk A20
 clear A20
 by_cases c3:t296<0
 ·rw [if_pos c3] at H
  have c3b0:decide (t296<0)=true:=decide_eq_true c3
  clear c3
  obtain rfl:=Option.some.inj H
  go_enter Tryz.func3,Tryz.ntmps3
  go_wp2_with (first|((with_reducible refine gate_dst (N:=1) rfl ?_);refine box_event ?hg (N:=1) ?hd (cs:=#[.slice A0_0 l0_0.length c0_0]) (t:=24) ?hr ?_;(case hd=>rfl);(case hg=>rfl);(case hr=>first|(go_simp;done)|(go_simp;rfl));intro gb295 hg w4 hbox hb;have n0_:=Aside0.mk (below_step (by repeat (first|(with_reducible first|exact HB.out|apply below_alloc|apply pw_below_drewN|apply below_drew1)|exact HB.out)) hb);have n1_:=Aside0.mk (hbox);have n2_:=Aside0.mk ((by rw [hg];exact (below_size (by repeat (first|(with_reducible first|exact HB.out|apply below_alloc|apply pw_below_drewN|apply below_drew1)|exact HB.out))):w.heap.size≤gb295));have n3_:=Aside0.mk ((by rw [hg];exact (below_size (by repeat (first|(with_reducible first|exact HB.out|apply below_alloc|apply pw_below_drewN|apply below_drew1)|exact HB.out))):w.heap.size≤gb295));clear HB;have HB:=n0_;have BK295:=n1_;have GW295:=n2_;have GE295:=n3_;clear n0_ n1_ n2_ n3_;clear hb hbox hg;have hcz5_0:w4.cell? ⟨gb295,0,none⟩=some (.slice A0_0 l0_0.length c0_0):=(blk_cell BK295.out 0).trans rfl;have hfz5_0:=blk_frozen BK295.out 0)|((with_reducible refine gate_callee (f:=5) rfl ?_);refine goesL_ (some 9) rfl rfl Tryz.func5 (by kernel_rfl) rfl #[.agg #[.slice A0_0 l0_0.length c0_0],.int .i64 1048576] rfl (by (try simp only [List.map_toArray,List.map_cons,List.map_nil]);first|done|rfl|(simp only [List.length_drop,List.length_take];rfl)) ?_;(with_reducible refine (laws_szTree.calls k _ _ l0_0 1048576 t296 _ ?side1 ?side2 A2.out).mono ?_);(case side1=>repeat (first|exact (Kd.C_below HR0_0.out HB.out)|(with_reducible refine Kd.C_alloc ?_ _)|(with_reducible refine Kd.C_drewN ?_ _)|(with_reducible refine Kd.C_drew ?_)));(case side2=>exact HC0_0.out);rintro e w6 ⟨rfl,hb⟩;refine ⟨_,rfl,?_⟩;have n0_:=Aside0.mk (blk_below (g:=gb295) (o:=.cells #[.slice A0_0 l0_0.length c0_0] 24 (0,0)) (by (with_reducible repeat (first|refine blk_drewN ?_ _|refine blk_drew ?_|refine blk_alloc ?_ _));exact BK295.out) hb);have n1_:=Aside0.mk (below_step (by repeat (first|(with_reducible first|exact HB.out|apply below_alloc|apply pw_below_drewN|apply below_drew1|refine below_set ?_ GE295.out)|exact HB.out)) hb);clear BK295;clear HB;have BK295:=n0_;have HB:=n1_;clear n0_ n1_;(try clear hb);(try clear hb2);(try clear hk);(try clear hi)))
  go_ret
  exact ⟨by first|rfl|(simp [errW_none,errW_some]<;>rfl)|(simp [*,errW_none,errW_some]<;>rfl),by repeat (first|(with_reducible first|exact HB.out|apply below_alloc|apply pw_below_drewN|apply below_drew1|refine below_set ?_ GE295.out)|exact HB.out)⟩
 ·rw [if_neg c3] at H
  have c3b0:decide (t296<0)=false:=decide_eq_false c3
  clear c3
  replace H:=Option.bind_eq_some_iff.mp H
  obtain ⟨t297,A70,H⟩:=H
  replace H:((spec_Write.f k t297).bind fun t300=>((laws_toTree.f k l0_0).bind fun t301=>((impl_Write.f k t301).bind fun t305=>(if t305.toList=t300.toList then ((laws_toTree.f k l0_0).bind fun t306=>((laws_eqTree.f k t301 t306).bind fun t309=>(if t309=true then (some true) else (none)))) else (none)))))=some r:=H
  have A7:=Aside0.mk A70
  clear A70
  replace H:=Option.bind_eq_some_iff.mp H
  obtain ⟨t300,A80,H⟩:=H
  replace H:((laws_toTree.f k l0_0).bind fun t301=>((impl_Write.f k t301).bind fun t305=>(if t305.toList=t300.toList then ((laws_toTree.f k l0_0).bind fun t306=>((laws_eqTree.f k t301 t306).bind fun t309=>(if t309=true then (some true) else (none)))) else (none))))=some r:=H
  have A8:=Aside0.mk A80
  clear A80
  replace H:=Option.bind_eq_some_iff.mp H
  obtain ⟨t301,A90,H⟩:=H
  replace H:((impl_Write.f k t301).bind fun t305=>(if t305.toList=t300.toList then ((laws_toTree.f k l0_0).bind fun t306=>((laws_eqTree.f k t301 t306).bind fun t309=>(if t309=true then (some true) else (none)))) else (none)))=some r:=H
  have A9:=Aside0.mk A90
  clear A90
  replace H:=Option.bind_eq_some_iff.mp H
  obtain ⟨t305,A100,H⟩:=H
  replace H:(if t305.toList=t300.toList then ((laws_toTree.f k l0_0).bind fun t306=>((laws_eqTree.f k t301 t306).bind fun t309=>(if t309=true then (some true) else (none)))) else (none))=some r:=H
  have A10:=Aside0.mk A100
  clear A100
  by_cases c11:t305.toList=t300.toList
  ·rw [if_pos c11] at H
   have c11b0:(t305.toList==t300.toList)=true:=beq_iff_eq.mpr c11
   have c11b1:(t305.toList != t300.toList)=false:=bne_eq_false_iff_eq.mpr c11
   clear c11
   replace H:=Option.bind_eq_some_iff.mp H
   obtain ⟨t306,A120,H⟩:=H
   replace H:((laws_eqTree.f k t301 t306).bind fun t309=>(if t309=true then (some true) else (none)))=some r:=H
   have A12:=Aside0.mk A120
   clear A120
   replace H:=Option.bind_eq_some_iff.mp H
   obtain ⟨t309,A130,H⟩:=H
   replace H:(if t309=true then (some true) else (none))=some r:=H
   have A13:=Aside0.mk A130
   clear A130
   by_cases c14:t309=true
   ·subst c14
    have H1:(some true)=some r:=by rw [if_pos rfl] at H;exact H
    clear H
    have H:=H1
    clear H1
    obtain rfl:=Option.some.inj H
    go_enter Tryz.func3,Tryz.ntmps3
    try go_wp2_with (first|((with_reducible refine gate_dst (N:=1) rfl ?_);refine box_event ?hg (N:=1) ?hd (cs:=#[.slice A0_0 l0_0.length c0_0]) (t:=24) ?hr ?_;(case hd=>rfl);(case hg=>rfl);(case hr=>first|(go_simp;done)|(go_simp;rfl));intro gb295 hg w15 hbox hb;have n0_:=Aside0.mk (below_step (by repeat (first|(with_reducible first|exact HB.out|apply below_alloc|apply pw_below_drewN|apply below_drew1)|exact HB.out)) hb);have n1_:=Aside0.mk (hbox);have n2_:=Aside0.mk ((by rw [hg];exact (below_size (by repeat (first|(with_reducible first|exact HB.out|apply below_alloc|apply pw_below_drewN|apply below_drew1)|exact HB.out))):w.heap.size≤gb295));have n3_:=Aside0.mk ((by rw [hg];exact (below_size (by repeat (first|(with_reducible first|exact HB.out|apply below_alloc|apply pw_below_drewN|apply below_drew1)|exact HB.out))):w.heap.size≤gb295));clear HB;have HB:=n0_;have BK295:=n1_;have GW295:=n2_;have GE295:=n3_;clear n0_ n1_ n2_ n3_;clear hb hbox hg;have hcz16_0:w15.cell? ⟨gb295,0,none⟩=some (.slice A0_0 l0_0.length c0_0):=(blk_cell BK295.out 0).trans rfl;have hfz16_0:=blk_frozen BK295.out 0)|((with_reducible refine gate_callee (f:=5) rfl ?_);refine goesL_ (some 9) rfl rfl Tryz.func5 (by kernel_rfl) rfl #[.agg #[.slice A0_0 l0_0.length c0_0],.int .i64 1048576] rfl (by (try simp only [List.map_toArray,List.map_cons,List.map_nil]);first|done|rfl|(simp only [List.length_drop,List.length_take];rfl)) ?_;(with_reducible refine (laws_szTree.calls k _ _ l0_0 1048576 t296 _ ?side1 ?side2 A2.out).mono ?_);(case side1=>repeat (first|exact (Kd.C_below HR0_0.out HB.out)|(with_reducible refine Kd.C_alloc ?_ _)|(with_reducible refine Kd.C_drewN ?_ _)|(with_reducible refine Kd.C_drew ?_)));(case side2=>exact HC0_0.out);rintro e w17 ⟨rfl,hb⟩;refine ⟨_,rfl,?_⟩;have n0_:=Aside0.mk (blk_below (g:=gb295) (o:=.cells #[.slice A0_0 l0_0.length c0_0] 24 (0,0)) (by (with_reducible repeat (first|refine blk_drewN ?_ _|refine blk_drew ?_|refine blk_alloc ?_ _));exact BK295.out) hb);have n1_:=Aside0.mk (below_step (by repeat (first|(with_reducible first|exact HB.out|apply below_alloc|apply pw_below_drewN|apply below_drew1|refine below_set ?_ GE295.out)|exact HB.out)) hb);clear BK295;clear HB;have BK295:=n0_;have HB:=n1_;clear n0_ n1_;(try clear hb);(try clear hb2);(try clear hk);(try clear hi);have hcz18_0:w17.cell? ⟨gb295,0,none⟩=some (.slice A0_0 l0_0.length c0_0):=(blk_cell BK295.out 0).trans rfl;have hfz18_0:=blk_frozen BK295.out 0)|((with_reducible refine gate_callee (f:=7) rfl ?_);refine goesL_ (some 13) rfl rfl Tryz.func7 (by kernel_rfl) rfl #[.agg #[.slice A0_0 l0_0.length c0_0]] rfl (by (try simp only [List.map_toArray,List.map_cons,List.map_nil]);first|done|rfl|(simp only [List.length_drop,List.length_take];rfl)) ?_;(with_reducible refine (laws_toTree.calls k _ _ l0_0 t297 _ ?side1 ?side2 A7.out).mono ?_);(case side1=>repeat (first|exact (Kd.C_below HR0_0.out HB.out)|(with_reducible refine Kd.C_alloc ?_ _)|(with_reducible refine Kd.C_drewN ?_ _)|(with_reducible refine Kd.C_drew ?_)));(case side2=>exact HC0_0.out);rintro e w19 ⟨v298,rfl,ho0,hb⟩;refine ⟨_,rfl,?_⟩;have n0_:=Aside0.mk (Kd.S_lower ho0 (below_size (by repeat (first|(with_reducible first|exact HB.out|apply below_alloc|apply pw_below_drewN|apply below_drew1|refine below_set ?_ GE295.out)|exact HB.out))));have n1_:=Aside0.mk (blk_below (g:=gb295) (o:=.cells #[.slice A0_0 l0_0.length c0_0] 24 (0,0)) (by (with_reducible repeat (first|refine blk_drewN ?_ _|refine blk_drew ?_|refine blk_alloc ?_ _));exact BK295.out) hb);have n2_:=Aside0.mk (below_step (by repeat (first|(with_reducible first|exact HB.out|apply below_alloc|apply pw_below_drewN|apply below_drew1|refine below_set ?_ GE295.out)|exact HB.out)) hb);clear BK295;clear HB;have HO299:=n0_;have BK295:=n1_;have HB:=n2_;clear n0_ n1_ n2_;(try clear hb);(try clear hb2);(try clear hk);(try clear hi);(try clear ho0);obtain ⟨Ao20,co20,eo20⟩:=Kd.S_slice HO299.out;subst eo20)|((with_reducible refine gate_callee (f:=6) rfl ?_);refine goesL_ (some 14) rfl rfl Tryz.func6 (by kernel_rfl) rfl #[.agg #[.slice Ao20 t297.length co20]] rfl (by (try simp only [List.map_toArray,List.map_cons,List.map_nil]);first|done|rfl|(simp only [List.length_drop,List.length_take];rfl)) ?_;(with_reducible refine (spec_Write.calls k _ _ t297 t300 _ ?side1 ?side2 A8.out).mono ?_);(case side1=>repeat (first|exact (Kd.S_reads' HO299.out).2.2|(with_reducible refine Kd.C_alloc ?_ _)|(with_reducible refine Kd.C_drewN ?_ _)|(with_reducible refine Kd.C_drew ?_)));(case side2=>exact (Kd.S_reads' HO299.out).2.1);rintro e w21 ⟨rfl,hb⟩;refine ⟨_,rfl,?_⟩;have n0_:=Aside0.mk (Kd.S_below (by (with_reducible repeat (first|apply Kd.S_alloc|apply Kd.S_drewN|apply Kd.S_drew));exact HO299.out) hb);have n1_:=Aside0.mk (blk_below (g:=gb295) (o:=.cells #[.slice A0_0 l0_0.length c0_0] 24 (0,0)) (by (with_reducible repeat (first|refine blk_drewN ?_ _|refine blk_drew ?_|refine blk_alloc ?_ _));exact BK295.out) hb);have n2_:=Aside0.mk (below_step (by repeat (first|(with_reducible first|exact HB.out|apply below_alloc|apply pw_below_drewN|apply below_drew1|refine below_set ?_ GE295.out)|exact HB.out)) hb);clear HO299;clear BK295;clear HB;have HO299:=n0_;have BK295:=n1_;have HB:=n2_;clear n0_ n1_ n2_;(try clear hb);(try clear hb2);(try clear hk);(try clear hi);have hcz22_0:w21.cell? ⟨gb295,0,none⟩=some (.slice A0_0 l0_0.length c0_0):=(blk_cell BK295.out 0).trans rfl;have hfz22_0:=blk_frozen BK295.out 0)|((with_reducible refine gate_callee (f:=7) rfl ?_);refine goesL_ (some 16) rfl rfl Tryz.func7 (by kernel_rfl) rfl #[.agg #[.slice A0_0 l0_0.length c0_0]] rfl (by (try simp only [List.map_toArray,List.map_cons,List.map_nil]);first|done|rfl|(simp only [List.length_drop,List.length_take];rfl)) ?_;(with_reducible refine (laws_toTree.calls k _ _ l0_0 t301 _ ?side1 ?side2 A9.out).mono ?_);(case side1=>repeat (first|exact (Kd.C_below HR0_0.out HB.out)|(with_reducible refine Kd.C_alloc ?_ _)|(with_reducible refine Kd.C_drewN ?_ _)|(with_reducible refine Kd.C_drew ?_)));(case side2=>exact HC0_0.out);rintro e w23 ⟨v302,rfl,ho0,hb⟩;refine ⟨_,rfl,?_⟩;have n0_:=Aside0.mk (Kd.S_elder' (by (with_reducible repeat (first|apply Kd.S_alloc|apply Kd.S_drewN|apply Kd.S_drew));exact HO299.out) (Kd.S_base ho0) hb);have n1_:=Aside0.mk (Kd.S_lower (Kd.S_new' ho0 (Kd.S_lt (by (with_reducible repeat (first|apply Kd.S_alloc|apply Kd.S_drewN|apply Kd.S_drew));exact HO299.out))) (below_size (by repeat (first|(with_reducible first|exact HB.out|apply below_alloc|apply pw_below_drewN|apply below_drew1|refine below_set ?_ GE295.out)|exact HB.out))));have n2_:=Aside0.mk (blk_below (g:=gb295) (o:=.cells #[.slice A0_0 l0_0.length c0_0] 24 (0,0)) (by (with_reducible repeat (first|refine blk_drewN ?_ _|refine blk_drew ?_|refine blk_alloc ?_ _));exact BK295.out) hb);have n3_:=Aside0.mk (below_step (by repeat (first|(with_reducible first|exact HB.out|apply below_alloc|apply pw_below_drewN|apply below_drew1|refine below_set ?_ GE295.out)|exact HB.out)) hb);clear HO299;clear BK295;clear HB;have HO299:=n0_;have HO303:=n1_;have BK295:=n2_;have HB:=n3_;clear n0_ n1_ n2_ n3_;(try clear hb);(try clear hb2);(try clear hk);(try clear hi);(try clear ho0))|((with_reducible refine gate_dst (N:=5) rfl ?_);refine box_event ?hg (N:=5) ?hd (cs:=#[.slice none 0 0]) (t:=29) ?hr ?_;(case hd=>rfl);(case hg=>rfl);(case hr=>first|(go_simp;done)|(go_simp;rfl));intro gb304 hg w24 hbox hb;have n0_:=Aside0.mk (Kd.S_below (by (with_reducible repeat (first|apply Kd.S_alloc|apply Kd.S_drewN|apply Kd.S_drew));exact HO299.out) hb);have n1_:=Aside0.mk (Kd.S_below (by (with_reducible repeat (first|apply Kd.S_alloc|apply Kd.S_drewN|apply Kd.S_drew));exact HO303.out) hb);have n2_:=Aside0.mk (blk_below (g:=gb295) (o:=.cells #[.slice A0_0 l0_0.length c0_0] 24 (0,0)) (by (with_reducible repeat (first|refine blk_drewN ?_ _|refine blk_drew ?_|refine blk_alloc ?_ _));exact BK295.out) hb);have n3_:=Aside0.mk (below_step (by repeat (first|(with_reducible first|exact HB.out|apply below_alloc|apply pw_below_drewN|apply below_drew1|refine below_set ?_ GE295.out)|exact HB.out)) hb);have n4_:=Aside0.mk (hbox);have n5_:=Aside0.mk ((by rw [hg];exact (below_size (by repeat (first|(with_reducible first|exact HB.out|apply below_alloc|apply pw_below_drewN|apply below_drew1|refine below_set ?_ GE295.out)|exact HB.out))):w.heap.size≤gb304));have n6_:=Aside0.mk ((by rw [hg];exact (below_size (by repeat (first|(with_reducible first|exact HB.out|apply below_alloc|apply pw_below_drewN|apply below_drew1|refine below_set ?_ GE295.out)|exact HB.out))):w.heap.size≤gb304));have n7_:=Aside0.mk ((by rw [hg];exact Nat.ne_of_lt (blk_lt (g:=gb295) (o:=.cells #[.slice A0_0 l0_0.length c0_0] 24 (0,0)) (by (with_reducible repeat (first|refine blk_drewN ?_ _|refine blk_drew ?_|refine blk_alloc ?_ _));exact BK295.out)):gb295≠gb304));have n8_:=Aside0.mk ((by rw [hg];exact Nat.ne_of_gt (blk_lt (g:=gb295) (o:=.cells #[.slice A0_0 l0_0.length c0_0] 24 (0,0)) (by (with_reducible repeat (first|refine blk_drewN ?_ _|refine blk_drew ?_|refine blk_alloc ?_ _));exact BK295.out)):gb304≠gb295));clear HO299;clear HO303;clear BK295;clear HB;have HO299:=n0_;have HO303:=n1_;have BK295:=n2_;have HB:=n3_;have BK304:=n4_;have GW304:=n5_;have GE304:=n6_;have NB295_304:=n7_;have NB304_295:=n8_;clear n0_ n1_ n2_ n3_ n4_ n5_ n6_ n7_ n8_;clear hb hbox hg;obtain ⟨Ao25,co25,eo25⟩:=Kd.S_slice HO303.out;subst eo25;have hnb26:=NB304_295.out;have hnc26:=NB295_304.out;have hcz27_0:w24.cell? ⟨gb304,0,none⟩=some (.slice none 0 0):=(blk_cell BK304.out 0).trans rfl;have hfz27_0:=blk_frozen BK304.out 0)|((with_reducible refine gate_callee (f:=8) rfl ?_);refine goesL_ (some 18) rfl rfl Tryz.func8 (by kernel_rfl) rfl #[.agg #[.slice Ao25 t301.length co25]] rfl (by (try simp only [List.map_toArray,List.map_cons,List.map_nil]);first|done|rfl|(simp only [List.length_drop,List.length_take];rfl)) ?_;(with_reducible refine (impl_Write.calls k _ _ t301 t305 _ ?side1 ?side2 (HGT.out.below (by repeat (first|(with_reducible first|exact HB.out|apply below_alloc|apply pw_below_drewN|apply below_drew1|refine below_set ?_ GE295.out|refine below_set ?_ GE304.out)|exact HB.out))) A10.out).mono ?_);(case side1=>refine (Kd.S_reads' (e:=57) (base:=w.heap.size) (ok:=fun k_=>(True∧some k_≠(.slice Ao20 t297.length co20:Value).ownBlock)) (n:=t301.length) (c:=co25) ?_).2.2;exact (by (with_reducible repeat (first|apply Kd.S_alloc|apply Kd.S_drewN|apply Kd.S_drew));exact (Kd.S_mono (Kd.S_far (p:=⟨gb304,0,none⟩) (Kd.S_types HO303.out BK304.out (by decide)) (fun _ hk=>hk.2) (.slice Ao25 t301.length co25)) (fun _ h_=>h_.1))));(case side2=>exact (Kd.S_reads' HO303.out).2.1);rintro e w28 ⟨rfl,hb⟩;refine ⟨_,rfl,?_⟩;have n0_:=Aside0.mk (Kd.S_below (by (with_reducible repeat (first|apply Kd.S_alloc|apply Kd.S_drewN|apply Kd.S_drew));exact (Kd.S_mono (Kd.S_far (p:=⟨gb304,0,none⟩) (Kd.S_types HO299.out BK304.out (by decide)) (fun _ hk=>hk.2) (.slice Ao25 t301.length co25)) (fun _ h_=>h_.1))) hb);have n1_:=Aside0.mk (Kd.S_below (by (with_reducible repeat (first|apply Kd.S_alloc|apply Kd.S_drewN|apply Kd.S_drew));exact (Kd.S_mono (Kd.S_far (p:=⟨gb304,0,none⟩) (Kd.S_types HO303.out BK304.out (by decide)) (fun _ hk=>hk.2) (.slice Ao25 t301.length co25)) (fun _ h_=>h_.1))) hb);have n2_:=Aside0.mk (blk_below (g:=gb295) (o:=.cells #[.slice A0_0 l0_0.length c0_0] 24 (0,0)) (by (with_reducible repeat (first|refine blk_drewN ?_ _|refine blk_drew ?_|refine blk_alloc ?_ _));refine blk_far ?_ NB295_304.out _;(with_reducible repeat (first|refine blk_drewN ?_ _|refine blk_drew ?_|refine blk_alloc ?_ _));exact BK295.out) hb);have n3_:=Aside0.mk (blk_below (g:=gb304) (o:=.cells #[.slice Ao25 t301.length co25] 29 (0,0)) (by (with_reducible repeat (first|refine blk_drewN ?_ _|refine blk_drew ?_|refine blk_alloc ?_ _));refine blk_put (cs:=#[.slice none 0 0]) ?_ 0 _ rfl;(with_reducible repeat (first|refine blk_drewN ?_ _|refine blk_drew ?_|refine blk_alloc ?_ _));exact BK304.out) hb);have n4_:=Aside0.mk (below_step (by repeat (first|(with_reducible first|exact HB.out|apply below_alloc|apply pw_below_drewN|apply below_drew1|refine below_set ?_ GE295.out|refine below_set ?_ GE304.out)|exact HB.out)) hb);clear HO299;clear HO303;clear BK295;clear BK304;clear HB;have HO299:=n0_;have HO303:=n1_;have BK295:=n2_;have BK304:=n3_;have HB:=n4_;clear n0_ n1_ n2_ n3_ n4_;(try clear hb);(try clear hb2);(try clear hk);(try clear hi)))
    have n0_:=Aside0.mk (Kd.S_drew HO299.out)
    have n1_:=Aside0.mk (Kd.S_drew HO303.out)
    have n2_:=Aside0.mk (blk_drew BK295.out)
    have n3_:=Aside0.mk (blk_drew BK304.out)
    have n4_:=Aside0.mk (below_drew1 HB.out)
    clear HO299
    clear HO303
    clear BK295
    clear BK304
    clear HB
    have HO299:=n0_
    have HO303:=n1_
    have BK295:=n2_
    have BK304:=n3_
    have HB:=n4_
    clear n0_ n1_ n2_ n3_ n4_
    refine start_ (n:=5) (S:=fun w'=>w'.cell? ⟨gb304,0,none⟩=some (.slice Ao25 t301.length co25)∧w'.cell? ⟨gb295,0,none⟩=some (.slice A0_0 l0_0.length c0_0)) (ds:=[]) #[false,false,false,false,false] (by kernel_rfl) rfl rfl ⟨(blk_cell BK304.out 0).trans rfl,(blk_cell BK295.out 0).trans rfl⟩ (fun hHeld=>?_)
    generalize w28.drew=w29 at HO299 HO303 BK295 BK304 HB hHeld ⊢
    refine take_ (i:=0) (N:=some 22) (v:=?_) (a':=?_) #[true,false,false,false,false] rfl rfl (by kernel_rfl) (fun _ _ _ h=>h) (Or.inl ⟨by rfl,?_⟩) hHeld ?_ ?_
    rotate_left
    ·rintro w' ⟨s0,s1⟩
     go_simp
     with_reducible rfl
    rotate_left
    ·simp only [Act.put,List.setIfInBounds_toArray,List.set_cons_zero,List.set_cons_succ,i64_w,i32_w]
     rfl
    refine take_ (i:=1) (N:=some 23) (v:=?_) (a':=?_) #[true,true,false,false,false] rfl rfl (by kernel_rfl) (fun _ _ _ h=>h) (Or.inl ⟨by rfl,?_⟩) hHeld ?_ ?_
    rotate_left
    ·rintro w' ⟨s0,s1⟩
     go_simp
     with_reducible rfl
    rotate_left
    ·simp only [Act.put,List.setIfInBounds_toArray,List.set_cons_zero,List.set_cons_succ,i64_w,i32_w]
     rfl
    refine one_ (i:=2) (N:=some 24) #[true,true,true,false,false] rfl rfl (by kernel_rfl) (by decide) (fun K hK=>?_)
    refine goes_ Tryz.func7 (by kernel_rfl) rfl #[.agg #[.slice A0_0 l0_0.length c0_0]] (by rfl) rfl rfl (by (try simp only [List.map_toArray,List.map_cons,List.map_nil]);first|done|rfl|(simp only [List.length_drop,List.length_take];rfl)) ?_
    with_reducible refine (laws_toTree.calls k _ _ l0_0 t306 _ ?side1 ?side2 A12.out).mono ?_
    (case side1=>repeat (first|exact (Kd.C_below HR0_0.out HB.out)|(with_reducible refine Kd.C_alloc ?_ _)|(with_reducible refine Kd.C_drewN ?_ _)|(with_reducible refine Kd.C_drew ?_)))
    (case side2=>exact HC0_0.out)
    rintro e w30 ⟨v307,rfl,ho0,hb⟩
    refine ⟨_,rfl,?_⟩
    have n0_:=Aside0.mk (Kd.S_elder' (by (with_reducible repeat (first|apply Kd.S_alloc|apply Kd.S_drewN|apply Kd.S_drew));exact HO299.out) (Kd.S_base ho0) hb)
    have n1_:=Aside0.mk (Kd.S_elder' (by (with_reducible repeat (first|apply Kd.S_alloc|apply Kd.S_drewN|apply Kd.S_drew));exact HO303.out) (Kd.S_base ho0) hb)
    have n2_:=Aside0.mk (Kd.S_lower (Kd.S_new' (Kd.S_new' ho0 (Kd.S_lt (by (with_reducible repeat (first|apply Kd.S_alloc|apply Kd.S_drewN|apply Kd.S_drew));exact HO299.out))) (Kd.S_lt (by (with_reducible repeat (first|apply Kd.S_alloc|apply Kd.S_drewN|apply Kd.S_drew));exact HO303.out))) (below_size (by repeat (first|(with_reducible first|exact HB.out|apply below_alloc|apply pw_below_drewN|apply below_drew1|refine below_set ?_ GE295.out|refine below_set ?_ GE304.out)|exact HB.out))))
    have n3_:=Aside0.mk (blk_below (g:=gb295) (o:=.cells #[.slice A0_0 l0_0.length c0_0] 24 (0,0)) (by (with_reducible repeat (first|refine blk_drewN ?_ _|refine blk_drew ?_|refine blk_alloc ?_ _));exact BK295.out) hb)
    have n4_:=Aside0.mk (blk_below (g:=gb304) (o:=.cells #[.slice Ao25 t301.length co25] 29 (0,0)) (by (with_reducible repeat (first|refine blk_drewN ?_ _|refine blk_drew ?_|refine blk_alloc ?_ _));exact BK304.out) hb)
    have n5_:=Aside0.mk (below_step (by repeat (first|(with_reducible first|exact HB.out|apply below_alloc|apply pw_below_drewN|apply below_drew1|refine below_set ?_ GE295.out|refine below_set ?_ GE304.out)|exact HB.out)) hb)
    clear HO299
    clear HO303
    clear BK295
    clear BK304
    clear HB
    have HO299:=n0_
    have HO303:=n1_
    have HO308:=n2_
    have BK295:=n3_
    have BK304:=n4_
    have HB:=n5_
    clear n0_ n1_ n2_ n3_ n4_ n5_
    (try clear hb)
    (try clear hb2)
    (try clear hk)
    (try clear hi)
    (try clear ho0)
    obtain ⟨Ao31,co31,eo31⟩:=Kd.S_slice HO308.out
    (first|subst eo31|(injection eo31 with f1_ f2_ f3_;have f4_:=f1_.symm;have f5_:=f3_.symm;clear f1_ f2_ f3_;subst f4_;subst f5_))
    refine hK.out _ _ ⟨(blk_cell BK304.out 0).trans rfl,(blk_cell BK295.out 0).trans rfl⟩ (fun hHeld=>?_)
    clear hK K
    refine norm_ (a':=?_) ?_ ?_
    rotate_left
    ·show Act.put _ (some 24) _=_
     simp only [Act.put,List.setIfInBounds_toArray,List.set_cons_zero,List.set_cons_succ,i64_w,i32_w]
     rfl
    refine one_ (i:=3) (N:=some 25) #[true,true,true,true,false] rfl rfl (by kernel_rfl) (by decide) (fun K hK=>?_)
    refine goes_ Tryz.func9 (by kernel_rfl) rfl #[.agg #[.slice Ao25 t301.length co25],.agg #[.slice Ao31 t306.length co31]] (by rfl) rfl rfl (by (try simp only [List.map_toArray,List.map_cons,List.map_nil]);first|done|rfl|(simp only [List.length_drop,List.length_take];rfl)) ?_
    with_reducible refine (laws_eqTree.calls k _ _ t301 _ _ t306 true _ ?side1 ?side2 ?side3 ?side4 A13.out).mono ?_
    (case side1=>repeat (first|exact (Kd.S_reads' HO303.out).2.2|(with_reducible refine Kd.C_alloc ?_ _)|(with_reducible refine Kd.C_drewN ?_ _)|(with_reducible refine Kd.C_drew ?_)))
    (case side2=>exact (Kd.S_reads' HO303.out).2.1)
    (case side3=>repeat (first|exact (Kd.S_reads' HO308.out).2.2|(with_reducible refine Kd.C_alloc ?_ _)|(with_reducible refine Kd.C_drewN ?_ _)|(with_reducible refine Kd.C_drew ?_)))
    (case side4=>exact (Kd.S_reads' HO308.out).2.1)
    rintro e w32 ⟨rfl,hb⟩
    refine ⟨_,rfl,?_⟩
    have n0_:=Aside0.mk (Kd.S_below (by (with_reducible repeat (first|apply Kd.S_alloc|apply Kd.S_drewN|apply Kd.S_drew));exact HO299.out) hb)
    have n1_:=Aside0.mk (Kd.S_below (by (with_reducible repeat (first|apply Kd.S_alloc|apply Kd.S_drewN|apply Kd.S_drew));exact HO303.out) hb)
    have n2_:=Aside0.mk (Kd.S_below (by (with_reducible repeat (first|apply Kd.S_alloc|apply Kd.S_drewN|apply Kd.S_drew));exact HO308.out) hb)
    have n3_:=Aside0.mk (blk_below (g:=gb295) (o:=.cells #[.slice A0_0 l0_0.length c0_0] 24 (0,0)) (by (with_reducible repeat (first|refine blk_drewN ?_ _|refine blk_drew ?_|refine blk_alloc ?_ _));exact BK295.out) hb)
    have n4_:=Aside0.mk (blk_below (g:=gb304) (o:=.cells #[.slice Ao25 t301.length co25] 29 (0,0)) (by (with_reducible repeat (first|refine blk_drewN ?_ _|refine blk_drew ?_|refine blk_alloc ?_ _));exact BK304.out) hb)
    have n5_:=Aside0.mk (below_step (by repeat (first|(with_reducible first|exact HB.out|apply below_alloc|apply pw_below_drewN|apply below_drew1|refine below_set ?_ GE295.out|refine below_set ?_ GE304.out)|exact HB.out)) hb)
    clear HO299
    clear HO303
    clear HO308
    clear BK295
    clear BK304
    clear HB
    have HO299:=n0_
    have HO303:=n1_
    have HO308:=n2_
    have BK295:=n3_
    have BK304:=n4_
    have HB:=n5_
    clear n0_ n1_ n2_ n3_ n4_ n5_
    (try clear hb)
    (try clear hb2)
    (try clear hk)
    (try clear hi)
    refine hK.out _ _ ⟨(blk_cell BK304.out 0).trans rfl,(blk_cell BK295.out 0).trans rfl⟩ (fun hHeld=>?_)
    clear hK K
    refine norm_ (a':=?_) ?_ ?_
    rotate_left
    ·show Act.put _ (some 25) _=_
     simp only [Act.put,List.setIfInBounds_toArray,List.set_cons_zero,List.set_cons_succ,i64_w,i32_w]
     rfl
    refine pure_ (i:=4) (N:=some 26) (v:=?_) (a':=?_) #[true,true,true,true,true] rfl rfl (by kernel_rfl) (fun _ _ _ h=>h) (Or.inl ⟨by rfl,?_⟩) ?_ ?_
    rotate_left
    ·intro w'
     go_simp
     with_reducible rfl
    rotate_left
    ·simp only [Act.put,List.setIfInBounds_toArray,List.set_cons_zero,List.set_cons_succ,i64_w,i32_w]
     rfl
    refine done_ (by kernel_rfl) ?_
    try go_wp2
    go_ret
    exact ⟨by first|rfl|(simp [errW_none,errW_some]<;>rfl)|(simp [*,errW_none,errW_some]<;>rfl),by repeat (first|(with_reducible first|exact HB.out|apply below_alloc|apply pw_below_drewN|apply below_drew1|refine below_set ?_ GE295.out|refine below_set ?_ GE304.out)|exact HB.out)⟩
   ·replace c14:=Bool.eq_false_iff.mpr c14
    subst c14
    exact absurd H (by simp)
  ·rw [if_neg c11] at H
   exact absurd H (by simp)
end Go.Proofs.YtjojmfhgfeflnaaGreatDoor.QFnExactWrite
