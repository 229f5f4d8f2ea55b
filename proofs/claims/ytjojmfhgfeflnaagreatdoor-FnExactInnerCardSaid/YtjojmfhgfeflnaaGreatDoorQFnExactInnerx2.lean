/- Written by a program (wip/tools/own_print.py) out of the walk that the kit's printer made; turned where it fell. -/
-- PRINTED by print.py (a twelfth state) out of the translation. Not trusted: Lean checks it.
import Derived.Test.YtjojmfhgfeflnaaGreatDoorQFnExactInnerx0
import Derived.Test.YtjojmfhgfeflnaaGreatDoorQFnExactInnerx1
namespace Go.Proofs.YtjojmfhgfeflnaaGreatDoor.QFnExactInner
open Go.RowKit Go.Proofs.YtjojmfhgfeflnaaGreatDoorV.PrintWords Go.Proofs.YtjojmfhgfeflnaaGreatDoorV.PrintLast Go.Proofs.YtjojmfhgfeflnaaGreatDoorV.PrintMore
attribute [local go_sem] max2_int min2_int max_two min_two max_three min_three max_four min_four   -- for this text's walks alone
set_option linter.unusedVariables false
set_option linter.unusedSimpArgs false
/-! ### laws_eqAttrS: function 44 -/
def laws_eqAttrS.l0:Nat→List (S77)→List (S77)→Int→Option (Bool)
 |0,_,_,_=>none
 |k+1,x0,x1,x5=>if x5<(x0.length:Int) then (if 0≤x5 then (if x5<(x1.length:Int) then ((laws_eqAttr.f ((rd_T77 x0 x5).f0) ((rd_T77 x0 x5).f1) ((rd_T77 x1 x5).f0) ((rd_T77 x1 x5).f1)).bind fun t149=>(if t149=true then (laws_eqAttrS.l0 k x0 x1 (wrap64 (x5+1))) else (none))) else (none)) else (none)) else (some true)
def laws_eqAttrS.f (k:Nat) (l0:List (S77)) (l1:List (S77)):Option (Bool):=if (l0.length:Int)=(l1.length:Int) then (laws_eqAttrS.l0 k l0 l1 0) else (none)
theorem laws_eqAttrS.mono_l:∀ k,(∀ y0 y1 y2,LeO (laws_eqAttrS.l0 k y0 y1 y2) (laws_eqAttrS.l0 (k+1) y0 y1 y2))
 |0=>fun _ _ _ r h=>by simp [laws_eqAttrS.l0] at h
 |k+1=>by
  have ih0:=laws_eqAttrS.mono_l k
  ·intro y0 y1 y2
   unfold laws_eqAttrS.l0
   repeat' first
   |(with_reducible exact ih0 _ _ _)
   |(with_reducible exact LeO.refl _)
   |(with_reducible exact LeO.none _)
   |(with_reducible refine LeO.ite ?_ ?_)
   |(with_reducible refine LeO.bind ?_ (fun _=>?_))
   |exact ih0 _ _ _
   |exact LeO.none _
   |refine LeO.ite ?_ ?_
   |refine LeO.bind ?_ (fun _=>?_)
theorem laws_eqAttrS.mono:∀ a0 a1 k,LeO (laws_eqAttrS.f k a0 a1) (laws_eqAttrS.f (k+1) a0 a1):=by
 intro a0 a1 k
 have ih0:=laws_eqAttrS.mono_l k
 unfold laws_eqAttrS.f
 repeat' first
   |(with_reducible exact ih0 _ _ _)
   |(with_reducible exact LeO.refl _)
   |(with_reducible exact LeO.none _)
   |(with_reducible refine LeO.ite ?_ ?_)
   |(with_reducible refine LeO.bind ?_ (fun _=>?_))
   |exact ih0 _ _ _
   |exact LeO.none _
   |refine LeO.ite ?_ ?_
   |refine LeO.bind ?_ (fun _=>?_)
def laws_eqAttrS.T6:Bool×List (List Nat×List Nat):=(true,[([],[]),([],[]),([0,1],[0,1]),([2],[2]),([],[]),([],[]),([4,5],[4,5]),([6],[6]),([3,7],[3,7]),([8],[8])])
def laws_eqAttrS.B6:List Nat:=[0,0,3,7,0,0,48,112,255,511]
theorem laws_eqAttrS.tab6:rtab .any (opsOf Tryz.f44 6)=laws_eqAttrS.T6:=by kernel_rfl
theorem laws_eqAttrS.bits6:waitsOk laws_eqAttrS.T6.2 laws_eqAttrS.B6=true:=by kernel_rfl
set_option maxHeartbeats 8000000 in
set_option maxRecDepth 100000 in
theorem laws_eqAttrS.calls (k:Nat) (A0:Option Addr) (c0:Nat) (l0:List (S77)) (A1:Option Addr) (c1:Nat) (l1:List (S77)) (r:Bool) (w:World) (hr0:Kd.C k77 w A0 l0.length l0) (hc0:l0.length≤c0) (hr1:Kd.C k77 w A1 l1.length l1) (hc1:l1.length≤c1) (h:laws_eqAttrS.f k l0 l1=some r) :
  Calls Tryz.prog 44 #[.slice A0 l0.length c0,.slice A1 l1.length c1] w fun e w'=>e=.returned (.bool r)∧Below w.heap.size w w':=by
 have hu77:=Tryz.underlying77
 have HR0:=Aside0.mk hr0
 have HC0:=Aside0.mk hc0
 clear hr0 hc0
 have HR1:=Aside0.mk hr1
 have HC1:=Aside0.mk hc1
 clear hr1 hc1
 have HB:=Aside0.mk (Below.refl w.heap.size w)
 have H:(if (l0.length:Int)=(l1.length:Int) then (laws_eqAttrS.l0 k l0 l1 0) else (none))=some r:=h
 clear h
 by_cases c3:(l0.length:Int)=(l1.length:Int)
 ·rw [if_pos c3] at H
  have c3b0:((l0.length:Int)==(l1.length:Int))=true:=beq_iff_eq.mpr c3
  have c3b1:((l0.length:Int) != (l1.length:Int))=false:=bne_eq_false_iff_eq.mpr c3
  have c3b2:(l0.length==l1.length)=true:=by first|simpa using c3|(simp at c3 ⊢;omega)
  clear c3
  have H':=Aside0.mk H
  clear H
  go_enter Tryz.func44,Tryz.ntmps44
  go_wp2
  go_loopg [5] k (fun kq v5 w'=>∃ (x5_1:Int),v5=.int .i64 x5_1∧Aside0 (laws_eqAttrS.l0 kq l0 l1 x5_1=some r)∧Aside0 (kq≤k)∧Aside0 (Below w.heap.size w w'))
  case atStart=>exact ⟨(0),(by first|rfl|(simp;done)|(simp [*];done)),H',⟨Nat.le_refl _⟩,⟨by repeat (first|(with_reducible first|exact HB.out|apply below_alloc|apply pw_below_drewN|apply below_drew1)|exact HB.out)⟩⟩
  case round=>
   clear H'
   try clear c1
   try clear p2
   try clear c3
   try clear c3b0
   try clear c3b1
   try clear c3b2
   obtain ⟨x5_1,rfl,HA,HK1,HB⟩:=hrel
   cases gk with
   |zero=>exact absurd HA.out (by simp [laws_eqAttrS.l0])
   |succ k1=>
    have H:=HA.out
    clear HA
    simp only [laws_eqAttrS.l0] at H
    by_cases c4:x5_1<(l0.length:Int)
    ·rw [if_pos c4] at H
     have c4b0:decide (x5_1<(l0.length:Int))=true:=decide_eq_true c4
     clear c4
     by_cases c5:0≤x5_1
     ·rw [if_pos c5] at H
      have c5b0:decide (0≤x5_1)=true:=decide_eq_true c5
      clear c5
      by_cases c6:x5_1<(l1.length:Int)
      ·rw [if_pos c6] at H
       have c6b0:decide (x5_1<(l1.length:Int))=true:=decide_eq_true c6
       clear c6
       replace H:=Option.bind_eq_some_iff.mp H
       obtain ⟨t149,A70,H⟩:=H
       replace H:(if t149=true then (laws_eqAttrS.l0 k1 l0 l1 (wrap64 (x5_1+1))) else (none))=some r:=H
       have A7:=Aside0.mk A70
       clear A70
       by_cases c8:t149=true
       ·subst c8
        have H1:(laws_eqAttrS.l0 k1 l0 l1 (wrap64 (x5_1+1)))=some r:=by rw [if_pos rfl] at H;exact H
        clear H
        have H:=H1
        clear H1
        have H':=Aside0.mk H
        clear H
        try go_wp2
        have n0_:=Aside0.mk (below_drew1 HB.out)
        clear HB
        have HB:=n0_
        clear n0_
        have p147:0≤(x5_1:Int):=of_decide_eq_true (by first|(with_reducible assumption)|assumption)
        have q147:x5_1<(l0.length:Int):=of_decide_eq_true (by first|(with_reducible assumption)|assumption)
        obtain ⟨ad147,e147,hx147_0,hx147_1⟩:=at_T77 HR0.out x5_1 p147 q147
        have hw147_1:=hx147_1
        have hw147_0:=hx147_0
        cases e147
        replace hx147_0:=(HB.out.cell (World.block_lt_of_cell? w _ hx147_0)).trans hx147_0
        replace hx147_1:=(HB.out.cell (World.block_lt_of_cell? w _ hx147_1)).trans hx147_1
        replace p147:=eq_true p147
        replace q147:=eq_true q147
        have p148:0≤(x5_1:Int):=of_decide_eq_true (by first|(with_reducible assumption)|assumption)
        have q148:x5_1<(l1.length:Int):=of_decide_eq_true (by first|(with_reducible assumption)|assumption)
        obtain ⟨ad148,e148,hx148_0,hx148_1⟩:=at_T77 HR1.out x5_1 p148 q148
        have hw148_1:=hx148_1
        have hw148_0:=hx148_0
        cases e148
        replace hx148_0:=(HB.out.cell (World.block_lt_of_cell? w _ hx148_0)).trans hx148_0
        replace hx148_1:=(HB.out.cell (World.block_lt_of_cell? w _ hx148_1)).trans hx148_1
        replace p148:=eq_true p148
        replace q148:=eq_true q148
        refine start_ (n:=10) (S:=fun w'=>w'.cell? (ad147.add ((x5_1).toNat*2))=some (.string ((rd_T77 l0 x5_1).f0))∧w'.cell? ⟨(ad147.add ((x5_1).toNat*2)).block,(ad147.add ((x5_1).toNat*2)).off+1,none⟩=some (.string ((rd_T77 l0 x5_1).f1))∧w'.cell? (ad148.add ((x5_1).toNat*2))=some (.string ((rd_T77 l1 x5_1).f0))∧w'.cell? ⟨(ad148.add ((x5_1).toNat*2)).block,(ad148.add ((x5_1).toNat*2)).off+1,none⟩=some (.string ((rd_T77 l1 x5_1).f1))) (ds:=[]) #[false,false,false,false,false,false,false,false,false,false] (by kernel_rfl) rfl rfl ⟨((HB.out.cell (World.block_lt_of_cell? w _ hw147_0)).trans hw147_0),((HB.out.cell (World.block_lt_of_cell? w _ hw147_1)).trans hw147_1),((HB.out.cell (World.block_lt_of_cell? w _ hw148_0)).trans hw148_0),((HB.out.cell (World.block_lt_of_cell? w _ hw148_1)).trans hw148_1)⟩ (fun hHeld=>?_);refine with_tabW laws_eqAttrS.tab6 laws_eqAttrS.bits6 (fun HT_ HW_=>?_)
        generalize wr.drew=w9 at HB hx147_0 hx147_1 hx148_0 hx148_1 hHeld ⊢
        refine pure_ (i:=0) (N:=some 17) (v:=?_) (a':=?_) #[true,false,false,false,false,false,false,false,false,false] rfl rfl (any_of HT_.out (by kernel_rfl)) (fun _ _ _ h=>h) (Or.inl ⟨by rfl,?_⟩) ?_ ?_
        rotate_left
        ·intro w'
         go_simp
         with_reducible rfl
        rotate_left
        ·simp only [Act.put,List.setIfInBounds_toArray,List.set_cons_zero,List.set_cons_succ,i64_w,i32_w]
         rfl
        refine pure_ (i:=1) (N:=some 18) (v:=?_) (a':=?_) #[true,true,false,false,false,false,false,false,false,false] rfl rfl (any_of HT_.out (by kernel_rfl)) (fun _ _ _ h=>h) (Or.inl ⟨by rfl,?_⟩) ?_ ?_
        rotate_left
        ·intro w'
         go_simp
         with_reducible rfl
        rotate_left
        ·simp only [Act.put,List.setIfInBounds_toArray,List.set_cons_zero,List.set_cons_succ,i64_w,i32_w]
         rfl
        refine pure_ (i:=2) (N:=some 19) (v:=?_) (a':=?_) #[true,true,true,false,false,false,false,false,false,false] rfl rfl (any_of HT_.out (by kernel_rfl)) (fun _ _ _ h=>h) (Or.inl ⟨by rfl,?_⟩) ?_ ?_
        rotate_left
        ·intro w'
         go_simp
         with_reducible rfl
        rotate_left
        ·simp only [Act.put,List.setIfInBounds_toArray,List.set_cons_zero,List.set_cons_succ,i64_w,i32_w]
         rfl
        refine pure_ (i:=4) (N:=some 21) (v:=?_) (a':=?_) #[true,true,true,false,true,false,false,false,false,false] rfl rfl (any_of HT_.out (by kernel_rfl)) (fun _ _ _ h=>h) (Or.inl ⟨by rfl,?_⟩) ?_ ?_
        rotate_left
        ·intro w'
         go_simp
         with_reducible rfl
        rotate_left
        ·simp only [Act.put,List.setIfInBounds_toArray,List.set_cons_zero,List.set_cons_succ,i64_w,i32_w]
         rfl
        refine pure_ (i:=5) (N:=some 22) (v:=?_) (a':=?_) #[true,true,true,false,true,true,false,false,false,false] rfl rfl (any_of HT_.out (by kernel_rfl)) (fun _ _ _ h=>h) (Or.inl ⟨by rfl,?_⟩) ?_ ?_
        rotate_left
        ·intro w'
         go_simp
         with_reducible rfl
        rotate_left
        ·simp only [Act.put,List.setIfInBounds_toArray,List.set_cons_zero,List.set_cons_succ,i64_w,i32_w]
         rfl
        refine pure_ (i:=6) (N:=some 23) (v:=?_) (a':=?_) #[true,true,true,false,true,true,true,false,false,false] rfl rfl (any_of HT_.out (by kernel_rfl)) (fun _ _ _ h=>h) (Or.inl ⟨by rfl,?_⟩) ?_ ?_
        rotate_left
        ·intro w'
         go_simp
         with_reducible rfl
        rotate_left
        ·simp only [Act.put,List.setIfInBounds_toArray,List.set_cons_zero,List.set_cons_succ,i64_w,i32_w]
         rfl
        refine take_ (i:=3) (N:=some 20) (v:=?_) (a':=?_) #[true,true,true,true,true,true,true,false,false,false] rfl rfl (take_ofW HT_.out HW_.out (by kernel_rfl)) (fun _ _ _ h=>h) (Or.inl ⟨by rfl,?_⟩) hHeld ?_ ?_
        rotate_left
        ·rintro w' ⟨s0,s1,s2,s3⟩
         go_simp
         with_reducible rfl
        rotate_left
        ·simp only [Act.put,List.setIfInBounds_toArray,List.set_cons_zero,List.set_cons_succ,i64_w,i32_w]
         rfl
        refine take_ (i:=7) (N:=some 24) (v:=?_) (a':=?_) #[true,true,true,true,true,true,true,true,false,false] rfl rfl (take_ofW HT_.out HW_.out (by kernel_rfl)) (fun _ _ _ h=>h) (Or.inl ⟨by rfl,?_⟩) hHeld ?_ ?_
        rotate_left
        ·rintro w' ⟨s0,s1,s2,s3⟩
         go_simp
         with_reducible rfl
        rotate_left
        ·simp only [Act.put,List.setIfInBounds_toArray,List.set_cons_zero,List.set_cons_succ,i64_w,i32_w]
         rfl
        refine one_ (i:=8) (N:=some 25) #[true,true,true,true,true,true,true,true,true,false] rfl rfl (one_of HT_.out (by kernel_rfl)) (by decide) (fun K hK=>?_)
        refine goes_ Tryz.func54 (by kernel_rfl) rfl #[.agg #[.string ((rd_T77 l0 x5_1).f0),.string ((rd_T77 l0 x5_1).f1)],.agg #[.string ((rd_T77 l1 x5_1).f0),.string ((rd_T77 l1 x5_1).f1)]] (by rfl) rfl rfl (by (try simp only [List.map_toArray,List.map_cons,List.map_nil]);first|done|rfl|(simp only [List.length_drop,List.length_take];rfl)) ?_
        with_reducible refine (laws_eqAttr.calls ((rd_T77 l0 x5_1).f0) ((rd_T77 l0 x5_1).f1) ((rd_T77 l1 x5_1).f0) ((rd_T77 l1 x5_1).f1) true _ A7.out).mono ?_
        rintro e w10 ⟨rfl,hb⟩
        refine ⟨_,rfl,?_⟩
        have n0_:=Aside0.mk (below_step (by repeat (first|(with_reducible first|exact HB.out|apply below_alloc|apply pw_below_drewN|apply below_drew1)|exact HB.out)) hb)
        clear HB
        have HB:=n0_
        clear n0_
        (try clear hb)
        (try clear hb2)
        (try clear hk)
        (try clear hi)
        refine hK.out _ _ ⟨((HB.out.cell (World.block_lt_of_cell? w _ hw147_0)).trans hw147_0),((HB.out.cell (World.block_lt_of_cell? w _ hw147_1)).trans hw147_1),((HB.out.cell (World.block_lt_of_cell? w _ hw148_0)).trans hw148_0),((HB.out.cell (World.block_lt_of_cell? w _ hw148_1)).trans hw148_1)⟩ (fun hHeld=>?_)
        clear hK K
        refine norm_ (a':=?_) ?_ ?_
        rotate_left
        ·show Act.put _ (some 25) _=_
         simp only [Act.put,List.setIfInBounds_toArray,List.set_cons_zero,List.set_cons_succ,i64_w,i32_w]
         rfl
        refine pure_ (i:=9) (N:=some 26) (v:=?_) (a':=?_) #[true,true,true,true,true,true,true,true,true,true] rfl rfl (any_of HT_.out (by kernel_rfl)) (fun _ _ _ h=>h) (Or.inl ⟨by rfl,?_⟩) ?_ ?_
        rotate_left
        ·intro w'
         go_simp
         with_reducible rfl
        rotate_left
        ·simp only [Act.put,List.setIfInBounds_toArray,List.set_cons_zero,List.set_cons_succ,i64_w,i32_w]
         rfl
        refine done_ (done_of HT_.out (by kernel_rfl)) ?_
        try go_wp2
        go_roundg k1
        case measure=>have:=HK1.out;omega
        case rel=>exact ⟨(wrap64 (x5_1+1)),(by first|rfl|(simp;done)|(simp [*];done)),H',⟨by have:=HK1.out;omega⟩,⟨by repeat (first|(with_reducible first|exact HB.out|apply below_alloc|apply pw_below_drewN|apply below_drew1)|exact HB.out)⟩⟩
       ·replace c8:=Bool.eq_false_iff.mpr c8
        subst c8
        exact absurd H (by simp)
      ·rw [if_neg c6] at H
       exact absurd H (by simp)
     ·rw [if_neg c5] at H
      exact absurd H (by simp)
    ·rw [if_neg c4] at H
     have c4b0:decide (x5_1<(l0.length:Int))=false:=decide_eq_false c4
     clear c4
     obtain rfl:=Option.some.inj H
     go_wp2
     go_ret
     exact ⟨by first|rfl|(simp [errW_none,errW_some]<;>rfl)|(simp [*,errW_none,errW_some]<;>rfl),by repeat (first|(with_reducible first|exact HB.out|apply below_alloc|apply pw_below_drewN|apply below_drew1)|exact HB.out)⟩
 ·rw [if_neg c3] at H
  exact absurd H (by simp)
/-! ### laws_eqNode: function 30 -/
def laws_eqNode.f (k:Nat) (a0_0:Int) (a0_1:Int) (a0_2:ByteArray) (l0_3:List (S77)) (a0_4:ByteArray) (a0_5:Int) (a1_0:Int) (a1_1:Int) (a1_2:ByteArray) (l1_3:List (S77)) (a1_4:ByteArray) (a1_5:Int):Option (Bool):=if a0_0=a1_0 then (if a0_1=a1_1 then (if a0_2.toList=a1_2.toList then ((laws_eqAttrS.f k l0_3 l1_3).bind fun t152=>(if t152=true then (if a0_4.toList=a1_4.toList then (if a0_5=a1_5 then (some true) else (none)) else (none)) else (none))) else (none)) else (none)) else (none)
theorem laws_eqNode.mono:∀ a0 a1 a2 a3 a4 a5 a6 a7 a8 a9 a10 a11 k,LeO (laws_eqNode.f k a0 a1 a2 a3 a4 a5 a6 a7 a8 a9 a10 a11) (laws_eqNode.f (k+1) a0 a1 a2 a3 a4 a5 a6 a7 a8 a9 a10 a11):=by
 intro a0 a1 a2 a3 a4 a5 a6 a7 a8 a9 a10 a11 k
 unfold laws_eqNode.f
 repeat' first
   |(with_reducible exact laws_eqAttrS.mono _ _ _)
   |(with_reducible exact LeO.refl _)
   |(with_reducible exact LeO.none _)
   |(with_reducible refine LeO.ite ?_ ?_)
   |(with_reducible refine LeO.bind ?_ (fun _=>?_))
   |exact laws_eqAttrS.mono _ _ _
   |exact LeO.none _
   |refine LeO.ite ?_ ?_
   |refine LeO.bind ?_ (fun _=>?_)
set_option maxHeartbeats 8000000 in
set_option maxRecDepth 100000 in
theorem laws_eqNode.calls (k:Nat) (a0_0:Int) (a0_1:Int) (a0_2:ByteArray) (A0_3:Option Addr) (c0_3:Nat) (l0_3:List (S77)) (a0_4:ByteArray) (a0_5:Int) (a1_0:Int) (a1_1:Int) (a1_2:ByteArray) (A1_3:Option Addr) (c1_3:Nat) (l1_3:List (S77)) (a1_4:ByteArray) (a1_5:Int) (r:Bool) (w:World) (hr0_3:Kd.C k77 w A0_3 l0_3.length l0_3) (hc0_3:l0_3.length≤c0_3) (hr1_3:Kd.C k77 w A1_3 l1_3.length l1_3) (hc1_3:l1_3.length≤c1_3) (h:laws_eqNode.f k a0_0 a0_1 a0_2 l0_3 a0_4 a0_5 a1_0 a1_1 a1_2 l1_3 a1_4 a1_5=some r) :
  Calls Tryz.prog 30 #[.agg #[.int .i64 a0_0,.int .i64 a0_1,.string a0_2,.slice A0_3 l0_3.length c0_3,.string a0_4,.int .i64 a0_5],.agg #[.int .i64 a1_0,.int .i64 a1_1,.string a1_2,.slice A1_3 l1_3.length c1_3,.string a1_4,.int .i64 a1_5]] w fun e w'=>e=.returned (.bool r)∧Below w.heap.size w w':=by
 have hu57:=Tryz.underlying57
 have HR0_3:=Aside0.mk hr0_3
 have HC0_3:=Aside0.mk hc0_3
 clear hr0_3 hc0_3
 have HR1_3:=Aside0.mk hr1_3
 have HC1_3:=Aside0.mk hc1_3
 clear hr1_3 hc1_3
 have HB:=Aside0.mk (Below.refl w.heap.size w)
 have H:(if a0_0=a1_0 then (if a0_1=a1_1 then (if a0_2.toList=a1_2.toList then ((laws_eqAttrS.f k l0_3 l1_3).bind fun t152=>(if t152=true then (if a0_4.toList=a1_4.toList then (if a0_5=a1_5 then (some true) else (none)) else (none)) else (none))) else (none)) else (none)) else (none))=some r:=h
 clear h
 by_cases c3:a0_0=a1_0
 ·rw [if_pos c3] at H
  have c3b0:(a0_0==a1_0)=true:=beq_iff_eq.mpr c3
  have c3b1:(a0_0 != a1_0)=false:=bne_eq_false_iff_eq.mpr c3
  clear c3
  by_cases c4:a0_1=a1_1
  ·rw [if_pos c4] at H
   have c4b0:(a0_1==a1_1)=true:=beq_iff_eq.mpr c4
   have c4b1:(a0_1 != a1_1)=false:=bne_eq_false_iff_eq.mpr c4
   clear c4
   by_cases c5:a0_2.toList=a1_2.toList
   ·rw [if_pos c5] at H
    have c5b0:(a0_2.toList==a1_2.toList)=true:=beq_iff_eq.mpr c5
    have c5b1:(a0_2.toList != a1_2.toList)=false:=bne_eq_false_iff_eq.mpr c5
    clear c5
    replace H:=Option.bind_eq_some_iff.mp H
    obtain ⟨t152,A60,H⟩:=H
    replace H:(if t152=true then (if a0_4.toList=a1_4.toList then (if a0_5=a1_5 then (some true) else (none)) else (none)) else (none))=some r:=H
    have A6:=Aside0.mk A60
    clear A60
    by_cases c7:t152=true
    ·subst c7
     have H1:(if a0_4.toList=a1_4.toList then (if a0_5=a1_5 then (some true) else (none)) else (none))=some r:=by rw [if_pos rfl] at H;exact H
     clear H
     have H:=H1
     clear H1
     by_cases c8:a0_4.toList=a1_4.toList
     ·rw [if_pos c8] at H
      have c8b0:(a0_4.toList==a1_4.toList)=true:=beq_iff_eq.mpr c8
      have c8b1:(a0_4.toList != a1_4.toList)=false:=bne_eq_false_iff_eq.mpr c8
      clear c8
      by_cases c9:a0_5=a1_5
      ·rw [if_pos c9] at H
       have c9b0:(a0_5==a1_5)=true:=beq_iff_eq.mpr c9
       have c9b1:(a0_5 != a1_5)=false:=bne_eq_false_iff_eq.mpr c9
       clear c9
       obtain rfl:=Option.some.inj H
       go_enter Tryz.func30,Tryz.ntmps30
       go_wp2_with (first|((with_reducible refine gate_dst (N:=2) rfl ?_);refine box_event ?hg (N:=2) ?hd (cs:=#[.int .i64 a0_0,.int .i64 a0_1,.string a0_2,.slice A0_3 l0_3.length c0_3,.string a0_4,.int .i64 a0_5]) (t:=57) ?hr ?_;(case hd=>rfl);(case hg=>rfl);(case hr=>first|(go_simp;done)|(go_simp;rfl));intro gb150 hg w10 hbox hb;have n0_:=Aside0.mk (below_step (by repeat (first|(with_reducible first|exact HB.out|apply below_alloc|apply pw_below_drewN|apply below_drew1)|exact HB.out)) hb);have n1_:=Aside0.mk (hbox);have n2_:=Aside0.mk ((by rw [hg];exact (below_size (by repeat (first|(with_reducible first|exact HB.out|apply below_alloc|apply pw_below_drewN|apply below_drew1)|exact HB.out))):w.heap.size≤gb150));have n3_:=Aside0.mk ((by rw [hg];exact (below_size (by repeat (first|(with_reducible first|exact HB.out|apply below_alloc|apply pw_below_drewN|apply below_drew1)|exact HB.out))):w.heap.size≤gb150));clear HB;have HB:=n0_;have BK150:=n1_;have GW150:=n2_;have GE150:=n3_;clear n0_ n1_ n2_ n3_;clear hb hbox hg)|((with_reducible refine gate_dst (N:=3) rfl ?_);refine box_event ?hg (N:=3) ?hd (cs:=#[.int .i64 a1_0,.int .i64 a1_1,.string a1_2,.slice A1_3 l1_3.length c1_3,.string a1_4,.int .i64 a1_5]) (t:=57) ?hr ?_;(case hd=>rfl);(case hg=>rfl);(case hr=>first|(go_simp;done)|(go_simp;rfl));intro gb151 hg w11 hbox hb;have n0_:=Aside0.mk (blk_below (g:=gb150) (o:=.cells #[.int .i64 a0_0,.int .i64 a0_1,.string a0_2,.slice A0_3 l0_3.length c0_3,.string a0_4,.int .i64 a0_5] 57 (0,0)) (by (with_reducible repeat (first|refine blk_drewN ?_ _|refine blk_drew ?_|refine blk_alloc ?_ _));exact BK150.out) hb);have n1_:=Aside0.mk (below_step (by repeat (first|(with_reducible first|exact HB.out|apply below_alloc|apply pw_below_drewN|apply below_drew1|refine below_set ?_ GE150.out)|exact HB.out)) hb);have n2_:=Aside0.mk (hbox);have n3_:=Aside0.mk ((by rw [hg];exact (below_size (by repeat (first|(with_reducible first|exact HB.out|apply below_alloc|apply pw_below_drewN|apply below_drew1|refine below_set ?_ GE150.out)|exact HB.out))):w.heap.size≤gb151));have n4_:=Aside0.mk ((by rw [hg];exact (below_size (by repeat (first|(with_reducible first|exact HB.out|apply below_alloc|apply pw_below_drewN|apply below_drew1|refine below_set ?_ GE150.out)|exact HB.out))):w.heap.size≤gb151));have n5_:=Aside0.mk ((by rw [hg];exact Nat.ne_of_lt (blk_lt (g:=gb150) (o:=.cells #[.int .i64 a0_0,.int .i64 a0_1,.string a0_2,.slice A0_3 l0_3.length c0_3,.string a0_4,.int .i64 a0_5] 57 (0,0)) (by (with_reducible repeat (first|refine blk_drewN ?_ _|refine blk_drew ?_|refine blk_alloc ?_ _));exact BK150.out)):gb150≠gb151));have n6_:=Aside0.mk ((by rw [hg];exact Nat.ne_of_gt (blk_lt (g:=gb150) (o:=.cells #[.int .i64 a0_0,.int .i64 a0_1,.string a0_2,.slice A0_3 l0_3.length c0_3,.string a0_4,.int .i64 a0_5] 57 (0,0)) (by (with_reducible repeat (first|refine blk_drewN ?_ _|refine blk_drew ?_|refine blk_alloc ?_ _));exact BK150.out)):gb151≠gb150));clear BK150;clear HB;have BK150:=n0_;have HB:=n1_;have BK151:=n2_;have GW151:=n3_;have GE151:=n4_;have NB150_151:=n5_;have NB151_150:=n6_;clear n0_ n1_ n2_ n3_ n4_ n5_ n6_;clear hb hbox hg;have hnb12:=NB150_151.out;have hnc12:=NB151_150.out;have hcz13_0:w11.cell? ⟨gb150,0,none⟩=some (.int .i64 a0_0):=(blk_cell BK150.out 0).trans rfl;have hcz13_1:w11.cell? ⟨gb150,1,none⟩=some (.int .i64 a0_1):=(blk_cell BK150.out 1).trans rfl;have hcz13_2:w11.cell? ⟨gb150,2,none⟩=some (.string a0_2):=(blk_cell BK150.out 2).trans rfl;have hcz13_3:w11.cell? ⟨gb150,3,none⟩=some (.slice A0_3 l0_3.length c0_3):=(blk_cell BK150.out 3).trans rfl;have hcz13_4:w11.cell? ⟨gb150,4,none⟩=some (.string a0_4):=(blk_cell BK150.out 4).trans rfl;have hcz13_5:w11.cell? ⟨gb150,5,none⟩=some (.int .i64 a0_5):=(blk_cell BK150.out 5).trans rfl;have hfz13_0:=blk_frozen BK150.out 0;have hfz13_1:=blk_frozen BK150.out 1;have hfz13_2:=blk_frozen BK150.out 2;have hfz13_3:=blk_frozen BK150.out 3;have hfz13_4:=blk_frozen BK150.out 4;have hfz13_5:=blk_frozen BK150.out 5;have hcz14_0:w11.cell? ⟨gb151,0,none⟩=some (.int .i64 a1_0):=(blk_cell BK151.out 0).trans rfl;have hcz14_1:w11.cell? ⟨gb151,1,none⟩=some (.int .i64 a1_1):=(blk_cell BK151.out 1).trans rfl;have hcz14_2:w11.cell? ⟨gb151,2,none⟩=some (.string a1_2):=(blk_cell BK151.out 2).trans rfl;have hcz14_3:w11.cell? ⟨gb151,3,none⟩=some (.slice A1_3 l1_3.length c1_3):=(blk_cell BK151.out 3).trans rfl;have hcz14_4:w11.cell? ⟨gb151,4,none⟩=some (.string a1_4):=(blk_cell BK151.out 4).trans rfl;have hcz14_5:w11.cell? ⟨gb151,5,none⟩=some (.int .i64 a1_5):=(blk_cell BK151.out 5).trans rfl;have hfz14_0:=blk_frozen BK151.out 0;have hfz14_1:=blk_frozen BK151.out 1;have hfz14_2:=blk_frozen BK151.out 2;have hfz14_3:=blk_frozen BK151.out 3;have hfz14_4:=blk_frozen BK151.out 4;have hfz14_5:=blk_frozen BK151.out 5)|((with_reducible refine gate_callee (f:=44) rfl ?_);refine goesL_ (some 24) rfl rfl Tryz.func44 (by kernel_rfl) rfl #[.slice A0_3 l0_3.length c0_3,.slice A1_3 l1_3.length c1_3] rfl (by (try simp only [List.map_toArray,List.map_cons,List.map_nil]);first|done|rfl|(simp only [List.length_drop,List.length_take];rfl)) ?_;(with_reducible refine (laws_eqAttrS.calls k _ _ l0_3 _ _ l1_3 true _ ?side1 ?side2 ?side3 ?side4 A6.out).mono ?_);(case side1=>repeat (first|exact (Kd.C_below HR0_3.out HB.out)|(with_reducible refine Kd.C_alloc ?_ _)|(with_reducible refine Kd.C_drewN ?_ _)|(with_reducible refine Kd.C_drew ?_)));(case side2=>exact HC0_3.out);(case side3=>repeat (first|exact (Kd.C_below HR1_3.out HB.out)|(with_reducible refine Kd.C_alloc ?_ _)|(with_reducible refine Kd.C_drewN ?_ _)|(with_reducible refine Kd.C_drew ?_)));(case side4=>exact HC1_3.out);rintro e w15 ⟨rfl,hb⟩;refine ⟨_,rfl,?_⟩;have n0_:=Aside0.mk (blk_below (g:=gb150) (o:=.cells #[.int .i64 a0_0,.int .i64 a0_1,.string a0_2,.slice A0_3 l0_3.length c0_3,.string a0_4,.int .i64 a0_5] 57 (0,0)) (by (with_reducible repeat (first|refine blk_drewN ?_ _|refine blk_drew ?_|refine blk_alloc ?_ _));exact BK150.out) hb);have n1_:=Aside0.mk (blk_below (g:=gb151) (o:=.cells #[.int .i64 a1_0,.int .i64 a1_1,.string a1_2,.slice A1_3 l1_3.length c1_3,.string a1_4,.int .i64 a1_5] 57 (0,0)) (by (with_reducible repeat (first|refine blk_drewN ?_ _|refine blk_drew ?_|refine blk_alloc ?_ _));exact BK151.out) hb);have n2_:=Aside0.mk (below_step (by repeat (first|(with_reducible first|exact HB.out|apply below_alloc|apply pw_below_drewN|apply below_drew1|refine below_set ?_ GE150.out|refine below_set ?_ GE151.out)|exact HB.out)) hb);clear BK150;clear BK151;clear HB;have BK150:=n0_;have BK151:=n1_;have HB:=n2_;clear n0_ n1_ n2_;(try clear hb);(try clear hb2);(try clear hk);(try clear hi);have hcz16_0:w15.cell? ⟨gb150,0,none⟩=some (.int .i64 a0_0):=(blk_cell BK150.out 0).trans rfl;have hcz16_1:w15.cell? ⟨gb150,1,none⟩=some (.int .i64 a0_1):=(blk_cell BK150.out 1).trans rfl;have hcz16_2:w15.cell? ⟨gb150,2,none⟩=some (.string a0_2):=(blk_cell BK150.out 2).trans rfl;have hcz16_3:w15.cell? ⟨gb150,3,none⟩=some (.slice A0_3 l0_3.length c0_3):=(blk_cell BK150.out 3).trans rfl;have hcz16_4:w15.cell? ⟨gb150,4,none⟩=some (.string a0_4):=(blk_cell BK150.out 4).trans rfl;have hcz16_5:w15.cell? ⟨gb150,5,none⟩=some (.int .i64 a0_5):=(blk_cell BK150.out 5).trans rfl;have hfz16_0:=blk_frozen BK150.out 0;have hfz16_1:=blk_frozen BK150.out 1;have hfz16_2:=blk_frozen BK150.out 2;have hfz16_3:=blk_frozen BK150.out 3;have hfz16_4:=blk_frozen BK150.out 4;have hfz16_5:=blk_frozen BK150.out 5;have hcz17_0:w15.cell? ⟨gb151,0,none⟩=some (.int .i64 a1_0):=(blk_cell BK151.out 0).trans rfl;have hcz17_1:w15.cell? ⟨gb151,1,none⟩=some (.int .i64 a1_1):=(blk_cell BK151.out 1).trans rfl;have hcz17_2:w15.cell? ⟨gb151,2,none⟩=some (.string a1_2):=(blk_cell BK151.out 2).trans rfl;have hcz17_3:w15.cell? ⟨gb151,3,none⟩=some (.slice A1_3 l1_3.length c1_3):=(blk_cell BK151.out 3).trans rfl;have hcz17_4:w15.cell? ⟨gb151,4,none⟩=some (.string a1_4):=(blk_cell BK151.out 4).trans rfl;have hcz17_5:w15.cell? ⟨gb151,5,none⟩=some (.int .i64 a1_5):=(blk_cell BK151.out 5).trans rfl;have hfz17_0:=blk_frozen BK151.out 0;have hfz17_1:=blk_frozen BK151.out 1;have hfz17_2:=blk_frozen BK151.out 2;have hfz17_3:=blk_frozen BK151.out 3;have hfz17_4:=blk_frozen BK151.out 4;have hfz17_5:=blk_frozen BK151.out 5))
       go_ret
       exact ⟨by first|rfl|(simp [errW_none,errW_some]<;>rfl)|(simp [*,errW_none,errW_some]<;>rfl),by repeat (first|(with_reducible first|exact HB.out|apply below_alloc|apply pw_below_drewN|apply below_drew1|refine below_set ?_ GE150.out|refine below_set ?_ GE151.out)|exact HB.out)⟩
      ·rw [if_neg c9] at H
       exact absurd H (by simp)
     ·rw [if_neg c8] at H
      exact absurd H (by simp)
    ·replace c7:=Bool.eq_false_iff.mpr c7
     subst c7
     exact absurd H (by simp)
   ·rw [if_neg c5] at H
    exact absurd H (by simp)
  ·rw [if_neg c4] at H
   exact absurd H (by simp)
 ·rw [if_neg c3] at H
  exact absurd H (by simp)
end Go.Proofs.YtjojmfhgfeflnaaGreatDoor.QFnExactInner
