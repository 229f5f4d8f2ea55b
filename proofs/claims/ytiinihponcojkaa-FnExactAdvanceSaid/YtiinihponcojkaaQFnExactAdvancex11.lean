/- Written by a program (wip/tools/own_print.py) out of the walk that the kit's printer made; turned where it fell. -/
-- PRINTED by print.py (a twelfth state) out of the translation. Not trusted: Lean checks it.
import Derived.Test.YtiinihponcojkaaDyn
import Derived.Test.YtiinihponcojkaaQFnExactAdvancex0
import Derived.Test.YtiinihponcojkaaQFnExactAdvancex10
namespace Go.Proofs.Ytiinihponcojkaa.QFnExactAdvance
open Go.RowKit Go.Proofs.YtiinihponcojkaaV.PrintWords Go.Proofs.YtiinihponcojkaaV.PrintLast Go.Proofs.YtiinihponcojkaaV.PrintMore
attribute [local go_sem] max2_int min2_int max_two min_two max_three min_three max_four min_four   -- for this text's walks alone
open Go.Proofs.Ytiinihponcojkaa.Dyn
set_option linter.unusedVariables false
set_option linter.unusedSimpArgs false
/-! ### impl_Lig: function 64 -/
def impl_Lig.l0:Nat→List (S84)→Int→Option (Bool)
 |0,_,_=>none
 |k+1,x0,x5=>if x5<(x0.length:Int) then (if 0≤(wrap64 (x5 - 1)) then (if (wrap64 (x5 - 1))<(x0.length:Int) then (if 0≤x5 then ((impl_FontOk_c3.f k ((rd_T84 x0 (wrap64 (x5 - 1))).f0) ((rd_T84 x0 (wrap64 (x5 - 1))).f1) ((rd_T84 x0 (wrap64 (x5 - 1))).f2) ((rd_T84 x0 x5).f0) ((rd_T84 x0 x5).f1) ((rd_T84 x0 x5).f2)).bind fun t275=>(if t275≥0 then (some false) else (impl_Lig.l0 k x0 (wrap64 (x5+1))))) else (none)) else (none)) else (none)) else (some (decide ((x0.length:Int)≤1000)))
def impl_Lig.f (k:Nat) (l0:List (S84)) (a1:Int):Option (Bool):=impl_Lig.l0 k l0 1
theorem impl_Lig.mono_l:∀ k,(∀ y0 y1,LeO (impl_Lig.l0 k y0 y1) (impl_Lig.l0 (k+1) y0 y1))
 |0=>fun _ _ r h=>by simp [impl_Lig.l0] at h
 |k+1=>by
  have ih0:=impl_Lig.mono_l k
  ·intro y0 y1
   unfold impl_Lig.l0
   repeat' first
   |(with_reducible exact ih0 _ _)
   |(with_reducible exact impl_FontOk_c3.mono _ _ _ _ _ _ _)
   |(with_reducible exact LeO.refl _)
   |(with_reducible exact LeO.none _)
   |(with_reducible refine LeO.ite ?_ ?_)
   |(with_reducible refine LeO.bind ?_ (fun _=>?_))
   |exact ih0 _ _
   |exact impl_FontOk_c3.mono _ _ _ _ _ _ _
   |exact LeO.none _
   |refine LeO.ite ?_ ?_
   |refine LeO.bind ?_ (fun _=>?_)
theorem impl_Lig.mono:∀ a0 a1 k,LeO (impl_Lig.f k a0 a1) (impl_Lig.f (k+1) a0 a1):=by
 intro a0 a1 k
 have ih0:=impl_Lig.mono_l k
 unfold impl_Lig.f
 repeat' first
   |(with_reducible exact ih0 _ _)
   |(with_reducible exact impl_FontOk_c3.mono _ _ _ _ _ _ _)
   |(with_reducible exact LeO.refl _)
   |(with_reducible exact LeO.none _)
   |(with_reducible refine LeO.ite ?_ ?_)
   |(with_reducible refine LeO.bind ?_ (fun _=>?_))
   |exact ih0 _ _
   |exact impl_FontOk_c3.mono _ _ _ _ _ _ _
   |exact LeO.none _
   |refine LeO.ite ?_ ?_
   |refine LeO.bind ?_ (fun _=>?_)
def impl_Lig.T4:Bool×List (List Nat×List Nat):=(true,[([],[]),([],[]),([],[]),([2],[2]),([1,3],[1,3]),([4],[4]),([],[]),([],[]),([6,7],[6,7]),([8],[8]),([0,5,9],[0,5,9]),([10],[10])])
def impl_Lig.B4:List Nat:=[0,0,0,4,14,30,0,0,192,448,1023,2047]
theorem impl_Lig.tab4:rtab .any (opsOf Try.f64 4)=impl_Lig.T4:=by kernel_rfl
theorem impl_Lig.bits4:waitsOk impl_Lig.T4.2 impl_Lig.B4=true:=by kernel_rfl
set_option maxHeartbeats 8000000 in
set_option maxRecDepth 100000 in
theorem impl_Lig.calls (k:Nat) (A0:Option Addr) (c0:Nat) (l0:List (S84)) (a1:Int) (r:Bool) (w:World) (hr0:Kd.C k84 w A0 l0.length l0) (hc0:l0.length≤c0) (h:impl_Lig.f k l0 a1=some r) :
  Calls Try.prog 64 #[.slice A0 l0.length c0,.func (.func 65) #[] #[]] w fun e w'=>e=.returned (.bool r)∧Below w.heap.size w w':=by
 have hu84:=Try.underlying84
 have HR0:=Aside0.mk hr0
 have HC0:=Aside0.mk hc0
 clear hr0 hc0
 have HB:=Aside0.mk (Below.refl w.heap.size w)
 have H:(impl_Lig.l0 k l0 1)=some r:=h
 clear h
 have H':=Aside0.mk H
 clear H
 go_enter Try.func64,Try.ntmps64
 go_wp2
 go_loopg [5] k (fun kq v5 w'=>∃ (x5_1:Int),v5=.int .i64 x5_1∧Aside0 (impl_Lig.l0 kq l0 x5_1=some r)∧Aside0 (kq≤k)∧Aside0 (Below w.heap.size w w'))
 case atStart=>exact ⟨(1),(by first|rfl|(simp;done)|(simp [*];done)),H',⟨Nat.le_refl _⟩,⟨by repeat (first|(with_reducible first|exact HB.out|apply below_alloc|apply pw_below_drewN|apply below_drew1)|exact HB.out)⟩⟩
 case round=>
  clear H'
  try clear p2
  obtain ⟨x5_1,rfl,HA,HK1,HB⟩:=hrel
  cases gk with
  |zero=>exact absurd HA.out (by simp [impl_Lig.l0])
  |succ k1=>
   have H:=HA.out
   clear HA
   simp only [impl_Lig.l0] at H
   by_cases c3:x5_1<(l0.length:Int)
   ·rw [if_pos c3] at H
    have c3b0:decide (x5_1<(l0.length:Int))=true:=decide_eq_true c3
    clear c3
    obtain ⟨ji4,hji4⟩:∃ j_:Int,(wrap64 (x5_1 - 1))=j_:=⟨_,rfl⟩
    replace H:(if 0≤(ji4) then (if (ji4)<(l0.length:Int) then (if 0≤x5_1 then ((impl_FontOk_c3.f k1 ((rd_T84 l0 (ji4)).f0) ((rd_T84 l0 (ji4)).f1) ((rd_T84 l0 (ji4)).f2) ((rd_T84 l0 x5_1).f0) ((rd_T84 l0 x5_1).f1) ((rd_T84 l0 x5_1).f2)).bind fun t275=>(if t275≥0 then (some false) else (impl_Lig.l0 k1 l0 (wrap64 (x5_1+1))))) else (none)) else (none)) else (none))=some r:=by first|(rw [hji4] at H;exact H)|(simp only [hji4] at H ⊢;exact H)
    have hji4w:(IntKind.i64.wrap (x5_1 - 1))=ji4:=(i64_w _).trans hji4
    by_cases c5:0≤(ji4)
    ·rw [if_pos c5] at H
     have c5b0:decide (0≤(ji4))=true:=decide_eq_true c5
     clear c5
     by_cases c6:(ji4)<(l0.length:Int)
     ·rw [if_pos c6] at H
      have c6b0:decide ((ji4)<(l0.length:Int))=true:=decide_eq_true c6
      clear c6
      by_cases c7:0≤x5_1
      ·rw [if_pos c7] at H
       have c7b0:decide (0≤x5_1)=true:=decide_eq_true c7
       clear c7
       replace H:=Option.bind_eq_some_iff.mp H
       obtain ⟨t275,A80,H⟩:=H
       replace H:(if t275≥0 then (some false) else (impl_Lig.l0 k1 l0 (wrap64 (x5_1+1))))=some r:=H
       have A8:=Aside0.mk A80
       clear A80
       by_cases c9:t275≥0
       ·rw [if_pos c9] at H
        have c9b0:decide (0≤t275)=true:=decide_eq_true c9
        clear c9
        obtain rfl:=Option.some.inj H
        try go_wp2
        have n0_:=Aside0.mk (below_drew1 HB.out)
        clear HB
        have HB:=n0_
        clear n0_
        have p273:0≤((ji4):Int):=of_decide_eq_true (by first|(with_reducible assumption)|assumption)
        have q273:(ji4)<(l0.length:Int):=of_decide_eq_true (by first|(with_reducible assumption)|assumption)
        obtain ⟨ad273,e273,hx273_0,hx273_1,hx273_2⟩:=at_T84 HR0.out (ji4) p273 q273
        have hw273_2:=hx273_2
        have hw273_1:=hx273_1
        have hw273_0:=hx273_0
        cases e273
        replace hx273_0:=(HB.out.cell (World.block_lt_of_cell? w _ hx273_0)).trans hx273_0
        replace hx273_1:=(HB.out.cell (World.block_lt_of_cell? w _ hx273_1)).trans hx273_1
        replace hx273_2:=(HB.out.cell (World.block_lt_of_cell? w _ hx273_2)).trans hx273_2
        replace p273:=eq_true p273
        replace q273:=eq_true q273
        have p274:0≤(x5_1:Int):=of_decide_eq_true (by first|(with_reducible assumption)|assumption)
        have q274:x5_1<(l0.length:Int):=of_decide_eq_true (by first|(with_reducible assumption)|assumption)
        obtain ⟨ad274,e274,hx274_0,hx274_1,hx274_2⟩:=at_T84 HR0.out x5_1 p274 q274
        have hw274_2:=hx274_2
        have hw274_1:=hx274_1
        have hw274_0:=hx274_0
        obtain rfl:ad273=ad274:=(by injection e274)
        replace hx274_0:=(HB.out.cell (World.block_lt_of_cell? w _ hx274_0)).trans hx274_0
        replace hx274_1:=(HB.out.cell (World.block_lt_of_cell? w _ hx274_1)).trans hx274_1
        replace hx274_2:=(HB.out.cell (World.block_lt_of_cell? w _ hx274_2)).trans hx274_2
        replace p274:=eq_true p274
        replace q274:=eq_true q274
        refine start_ (n:=12) (S:=fun w'=>w'.cell? (ad273.add (((ji4)).toNat*3))=some (.int .i64 ((rd_T84 l0 (ji4)).f0))∧w'.cell? ⟨(ad273.add (((ji4)).toNat*3)).block,(ad273.add (((ji4)).toNat*3)).off+1,none⟩=some (.int .i64 ((rd_T84 l0 (ji4)).f1))∧w'.cell? ⟨(ad273.add (((ji4)).toNat*3)).block,(ad273.add (((ji4)).toNat*3)).off+2,none⟩=some (.int .i64 ((rd_T84 l0 (ji4)).f2))∧w'.cell? (ad273.add ((x5_1).toNat*3))=some (.int .i64 ((rd_T84 l0 x5_1).f0))∧w'.cell? ⟨(ad273.add ((x5_1).toNat*3)).block,(ad273.add ((x5_1).toNat*3)).off+1,none⟩=some (.int .i64 ((rd_T84 l0 x5_1).f1))∧w'.cell? ⟨(ad273.add ((x5_1).toNat*3)).block,(ad273.add ((x5_1).toNat*3)).off+2,none⟩=some (.int .i64 ((rd_T84 l0 x5_1).f2))) (ds:=[]) #[false,false,false,false,false,false,false,false,false,false,false,false] (by kernel_rfl) rfl rfl ⟨((HB.out.cell (World.block_lt_of_cell? w _ hw273_0)).trans hw273_0),((HB.out.cell (World.block_lt_of_cell? w _ hw273_1)).trans hw273_1),((HB.out.cell (World.block_lt_of_cell? w _ hw273_2)).trans hw273_2),((HB.out.cell (World.block_lt_of_cell? w _ hw274_0)).trans hw274_0),((HB.out.cell (World.block_lt_of_cell? w _ hw274_1)).trans hw274_1),((HB.out.cell (World.block_lt_of_cell? w _ hw274_2)).trans hw274_2)⟩ (fun hHeld=>?_);refine with_tabW impl_Lig.tab4 impl_Lig.bits4 (fun HT_ HW_=>?_)
        generalize wr.drew=w10 at HB hx273_0 hx273_1 hx273_2 hx274_0 hx274_1 hx274_2 hHeld ⊢
        refine pure_ (i:=0) (N:=some 12) (v:=?_) (a':=?_) #[true,false,false,false,false,false,false,false,false,false,false,false] rfl rfl (any_of HT_.out (by kernel_rfl)) (fun _ _ _ h=>h) (Or.inl ⟨by rfl,?_⟩) ?_ ?_
        rotate_left
        ·intro w'
         go_simp
         with_reducible rfl
        rotate_left
        ·simp only [Act.put,List.setIfInBounds_toArray,List.set_cons_zero,List.set_cons_succ,i64_w,i32_w]
         rfl
        refine pure_ (i:=1) (N:=some 13) (v:=?_) (a':=?_) #[true,true,false,false,false,false,false,false,false,false,false,false] rfl rfl (any_of HT_.out (by kernel_rfl)) (fun _ _ _ h=>h) (Or.inl ⟨by rfl,?_⟩) ?_ ?_
        rotate_left
        ·intro w'
         go_simp
         with_reducible rfl
        rotate_left
        ·simp only [Act.put,List.setIfInBounds_toArray,List.set_cons_zero,List.set_cons_succ,i64_w,i32_w]
         rfl
        refine pure_ (i:=2) (N:=some 14) (v:=?_) (a':=?_) #[true,true,true,false,false,false,false,false,false,false,false,false] rfl rfl (any_of HT_.out (by kernel_rfl)) (fun _ _ _ h=>h) (Or.inl ⟨by rfl,?_⟩) ?_ ?_
        rotate_left
        ·intro w'
         go_simp
         with_reducible rfl
        rotate_left
        ·simp only [Act.put,List.setIfInBounds_toArray,List.set_cons_zero,List.set_cons_succ,i64_w,i32_w]
         rfl
        refine pure_ (i:=3) (N:=some 15) (v:=?_) (a':=?_) #[true,true,true,true,false,false,false,false,false,false,false,false] rfl rfl (any_of HT_.out (by kernel_rfl)) (fun _ _ _ h=>h) (Or.inl ⟨by rfl,?_⟩) ?_ ?_
        rotate_left
        ·intro w'
         go_simp
         with_reducible rfl
        rotate_left
        ·simp only [Act.put,List.setIfInBounds_toArray,List.set_cons_zero,List.set_cons_succ,i64_w,i32_w]
         rfl
        refine pure_ (i:=4) (N:=some 16) (v:=?_) (a':=?_) #[true,true,true,true,true,false,false,false,false,false,false,false] rfl rfl (any_of HT_.out (by kernel_rfl)) (fun _ _ _ h=>h) (Or.inl ⟨by rfl,?_⟩) ?_ ?_
        rotate_left
        ·intro w'
         go_simp
         with_reducible rfl
        rotate_left
        ·simp only [Act.put,List.setIfInBounds_toArray,List.set_cons_zero,List.set_cons_succ,i64_w,i32_w]
         rfl
        refine pure_ (i:=6) (N:=some 18) (v:=?_) (a':=?_) #[true,true,true,true,true,false,true,false,false,false,false,false] rfl rfl (any_of HT_.out (by kernel_rfl)) (fun _ _ _ h=>h) (Or.inl ⟨by rfl,?_⟩) ?_ ?_
        rotate_left
        ·intro w'
         go_simp
         with_reducible rfl
        rotate_left
        ·simp only [Act.put,List.setIfInBounds_toArray,List.set_cons_zero,List.set_cons_succ,i64_w,i32_w]
         rfl
        refine pure_ (i:=7) (N:=some 19) (v:=?_) (a':=?_) #[true,true,true,true,true,false,true,true,false,false,false,false] rfl rfl (any_of HT_.out (by kernel_rfl)) (fun _ _ _ h=>h) (Or.inl ⟨by rfl,?_⟩) ?_ ?_
        rotate_left
        ·intro w'
         go_simp
         with_reducible rfl
        rotate_left
        ·simp only [Act.put,List.setIfInBounds_toArray,List.set_cons_zero,List.set_cons_succ,i64_w,i32_w]
         rfl
        refine pure_ (i:=8) (N:=some 20) (v:=?_) (a':=?_) #[true,true,true,true,true,false,true,true,true,false,false,false] rfl rfl (any_of HT_.out (by kernel_rfl)) (fun _ _ _ h=>h) (Or.inl ⟨by rfl,?_⟩) ?_ ?_
        rotate_left
        ·intro w'
         go_simp
         with_reducible rfl
        rotate_left
        ·simp only [Act.put,List.setIfInBounds_toArray,List.set_cons_zero,List.set_cons_succ,i64_w,i32_w]
         rfl
        refine take_ (i:=5) (N:=some 17) (v:=?_) (a':=?_) #[true,true,true,true,true,true,true,true,true,false,false,false] rfl rfl (take_ofW HT_.out HW_.out (by kernel_rfl)) (fun _ _ _ h=>h) (Or.inl ⟨by rfl,?_⟩) hHeld ?_ ?_
        rotate_left
        ·rintro w' ⟨s0,s1,s2,s3,s4,s5⟩
         go_simp
         with_reducible rfl
        rotate_left
        ·simp only [Act.put,List.setIfInBounds_toArray,List.set_cons_zero,List.set_cons_succ,i64_w,i32_w]
         rfl
        refine take_ (i:=9) (N:=some 21) (v:=?_) (a':=?_) #[true,true,true,true,true,true,true,true,true,true,false,false] rfl rfl (take_ofW HT_.out HW_.out (by kernel_rfl)) (fun _ _ _ h=>h) (Or.inl ⟨by rfl,?_⟩) hHeld ?_ ?_
        rotate_left
        ·rintro w' ⟨s0,s1,s2,s3,s4,s5⟩
         go_simp
         with_reducible rfl
        rotate_left
        ·simp only [Act.put,List.setIfInBounds_toArray,List.set_cons_zero,List.set_cons_succ,i64_w,i32_w]
         rfl
        refine one_ (i:=10) (N:=some 22) #[true,true,true,true,true,true,true,true,true,true,true,false] rfl rfl (one_of HT_.out (by kernel_rfl)) (by decide) (fun K hK=>?_)
        refine goesF_ Try.func65 (by kernel_rfl) rfl #[.agg #[.int .i64 ((rd_T84 l0 (ji4)).f0),.int .i64 ((rd_T84 l0 (ji4)).f1),.int .i64 ((rd_T84 l0 (ji4)).f2)],.agg #[.int .i64 ((rd_T84 l0 x5_1).f0),.int .i64 ((rd_T84 l0 x5_1).f1),.int .i64 ((rd_T84 l0 x5_1).f2)]] (by rfl) rfl rfl (by rfl) (by (try simp only [List.map_toArray,List.map_cons,List.map_nil]);first|done|(simp only [hji4];rfl)|rfl|(simp only [List.length_drop,List.length_take];rfl)) ?_
        with_reducible refine (impl_FontOk_c3.calls k1 ((rd_T84 l0 (ji4)).f0) ((rd_T84 l0 (ji4)).f1) ((rd_T84 l0 (ji4)).f2) ((rd_T84 l0 x5_1).f0) ((rd_T84 l0 x5_1).f1) ((rd_T84 l0 x5_1).f2) t275 _ A8.out).mono ?_
        rintro e w11 ⟨rfl,hb⟩
        refine ⟨_,rfl,?_⟩
        have n0_:=Aside0.mk (below_step (by repeat (first|(with_reducible first|exact HB.out|apply below_alloc|apply pw_below_drewN|apply below_drew1)|exact HB.out)) hb)
        clear HB
        have HB:=n0_
        clear n0_
        (try clear hb)
        (try clear hb2)
        (try clear hk)
        (try clear hi)
        refine hK.out _ _ ⟨((HB.out.cell (World.block_lt_of_cell? w _ hw273_0)).trans hw273_0),((HB.out.cell (World.block_lt_of_cell? w _ hw273_1)).trans hw273_1),((HB.out.cell (World.block_lt_of_cell? w _ hw273_2)).trans hw273_2),((HB.out.cell (World.block_lt_of_cell? w _ hw274_0)).trans hw274_0),((HB.out.cell (World.block_lt_of_cell? w _ hw274_1)).trans hw274_1),((HB.out.cell (World.block_lt_of_cell? w _ hw274_2)).trans hw274_2)⟩ (fun hHeld=>?_)
        clear hK K
        refine norm_ (a':=?_) ?_ ?_
        rotate_left
        ·show Act.put _ (some 22) _=_
         simp only [Act.put,List.setIfInBounds_toArray,List.set_cons_zero,List.set_cons_succ,i64_w,i32_w]
         rfl
        refine pure_ (i:=11) (N:=some 23) (v:=?_) (a':=?_) #[true,true,true,true,true,true,true,true,true,true,true,true] rfl rfl (any_of HT_.out (by kernel_rfl)) (fun _ _ _ h=>h) (Or.inl ⟨by rfl,?_⟩) ?_ ?_
        rotate_left
        ·intro w'
         go_simp
         with_reducible rfl
        rotate_left
        ·simp only [Act.put,List.setIfInBounds_toArray,List.set_cons_zero,List.set_cons_succ,i64_w,i32_w]
         rfl
        refine done_ (done_of HT_.out (by kernel_rfl)) ?_
        try go_wp2
        go_ret
        exact ⟨by first|rfl|(simp [errW_none,errW_some]<;>rfl)|(simp only [← hji4];first|rfl|(simp [errW_none,errW_some]<;>rfl))|(simp [*,errW_none,errW_some]<;>rfl),by repeat (first|(with_reducible first|exact HB.out|apply below_alloc|apply pw_below_drewN|apply below_drew1)|exact HB.out)⟩
       ·rw [if_neg c9] at H
        have c9b0:decide (0≤t275)=false:=decide_eq_false c9
        clear c9
        have H':=Aside0.mk H
        clear H
        try go_wp2
        have n0_:=Aside0.mk (below_drew1 HB.out)
        clear HB
        have HB:=n0_
        clear n0_
        have p273:0≤((ji4):Int):=of_decide_eq_true (by first|(with_reducible assumption)|assumption)
        have q273:(ji4)<(l0.length:Int):=of_decide_eq_true (by first|(with_reducible assumption)|assumption)
        obtain ⟨ad273,e273,hx273_0,hx273_1,hx273_2⟩:=at_T84 HR0.out (ji4) p273 q273
        have hw273_2:=hx273_2
        have hw273_1:=hx273_1
        have hw273_0:=hx273_0
        cases e273
        replace hx273_0:=(HB.out.cell (World.block_lt_of_cell? w _ hx273_0)).trans hx273_0
        replace hx273_1:=(HB.out.cell (World.block_lt_of_cell? w _ hx273_1)).trans hx273_1
        replace hx273_2:=(HB.out.cell (World.block_lt_of_cell? w _ hx273_2)).trans hx273_2
        replace p273:=eq_true p273
        replace q273:=eq_true q273
        have p274:0≤(x5_1:Int):=of_decide_eq_true (by first|(with_reducible assumption)|assumption)
        have q274:x5_1<(l0.length:Int):=of_decide_eq_true (by first|(with_reducible assumption)|assumption)
        obtain ⟨ad274,e274,hx274_0,hx274_1,hx274_2⟩:=at_T84 HR0.out x5_1 p274 q274
        have hw274_2:=hx274_2
        have hw274_1:=hx274_1
        have hw274_0:=hx274_0
        obtain rfl:ad273=ad274:=(by injection e274)
        replace hx274_0:=(HB.out.cell (World.block_lt_of_cell? w _ hx274_0)).trans hx274_0
        replace hx274_1:=(HB.out.cell (World.block_lt_of_cell? w _ hx274_1)).trans hx274_1
        replace hx274_2:=(HB.out.cell (World.block_lt_of_cell? w _ hx274_2)).trans hx274_2
        replace p274:=eq_true p274
        replace q274:=eq_true q274
        refine start_ (n:=12) (S:=fun w'=>w'.cell? (ad273.add (((ji4)).toNat*3))=some (.int .i64 ((rd_T84 l0 (ji4)).f0))∧w'.cell? ⟨(ad273.add (((ji4)).toNat*3)).block,(ad273.add (((ji4)).toNat*3)).off+1,none⟩=some (.int .i64 ((rd_T84 l0 (ji4)).f1))∧w'.cell? ⟨(ad273.add (((ji4)).toNat*3)).block,(ad273.add (((ji4)).toNat*3)).off+2,none⟩=some (.int .i64 ((rd_T84 l0 (ji4)).f2))∧w'.cell? (ad273.add ((x5_1).toNat*3))=some (.int .i64 ((rd_T84 l0 x5_1).f0))∧w'.cell? ⟨(ad273.add ((x5_1).toNat*3)).block,(ad273.add ((x5_1).toNat*3)).off+1,none⟩=some (.int .i64 ((rd_T84 l0 x5_1).f1))∧w'.cell? ⟨(ad273.add ((x5_1).toNat*3)).block,(ad273.add ((x5_1).toNat*3)).off+2,none⟩=some (.int .i64 ((rd_T84 l0 x5_1).f2))) (ds:=[]) #[false,false,false,false,false,false,false,false,false,false,false,false] (by kernel_rfl) rfl rfl ⟨((HB.out.cell (World.block_lt_of_cell? w _ hw273_0)).trans hw273_0),((HB.out.cell (World.block_lt_of_cell? w _ hw273_1)).trans hw273_1),((HB.out.cell (World.block_lt_of_cell? w _ hw273_2)).trans hw273_2),((HB.out.cell (World.block_lt_of_cell? w _ hw274_0)).trans hw274_0),((HB.out.cell (World.block_lt_of_cell? w _ hw274_1)).trans hw274_1),((HB.out.cell (World.block_lt_of_cell? w _ hw274_2)).trans hw274_2)⟩ (fun hHeld=>?_);refine with_tabW impl_Lig.tab4 impl_Lig.bits4 (fun HT_ HW_=>?_)
        generalize wr.drew=w12 at HB hx273_0 hx273_1 hx273_2 hx274_0 hx274_1 hx274_2 hHeld ⊢
        refine pure_ (i:=0) (N:=some 12) (v:=?_) (a':=?_) #[true,false,false,false,false,false,false,false,false,false,false,false] rfl rfl (any_of HT_.out (by kernel_rfl)) (fun _ _ _ h=>h) (Or.inl ⟨by rfl,?_⟩) ?_ ?_
        rotate_left
        ·intro w'
         go_simp
         with_reducible rfl
        rotate_left
        ·simp only [Act.put,List.setIfInBounds_toArray,List.set_cons_zero,List.set_cons_succ,i64_w,i32_w]
         rfl
        refine pure_ (i:=1) (N:=some 13) (v:=?_) (a':=?_) #[true,true,false,false,false,false,false,false,false,false,false,false] rfl rfl (any_of HT_.out (by kernel_rfl)) (fun _ _ _ h=>h) (Or.inl ⟨by rfl,?_⟩) ?_ ?_
        rotate_left
        ·intro w'
         go_simp
         with_reducible rfl
        rotate_left
        ·simp only [Act.put,List.setIfInBounds_toArray,List.set_cons_zero,List.set_cons_succ,i64_w,i32_w]
         rfl
        refine pure_ (i:=2) (N:=some 14) (v:=?_) (a':=?_) #[true,true,true,false,false,false,false,false,false,false,false,false] rfl rfl (any_of HT_.out (by kernel_rfl)) (fun _ _ _ h=>h) (Or.inl ⟨by rfl,?_⟩) ?_ ?_
        rotate_left
        ·intro w'
         go_simp
         with_reducible rfl
        rotate_left
        ·simp only [Act.put,List.setIfInBounds_toArray,List.set_cons_zero,List.set_cons_succ,i64_w,i32_w]
         rfl
        refine pure_ (i:=3) (N:=some 15) (v:=?_) (a':=?_) #[true,true,true,true,false,false,false,false,false,false,false,false] rfl rfl (any_of HT_.out (by kernel_rfl)) (fun _ _ _ h=>h) (Or.inl ⟨by rfl,?_⟩) ?_ ?_
        rotate_left
        ·intro w'
         go_simp
         with_reducible rfl
        rotate_left
        ·simp only [Act.put,List.setIfInBounds_toArray,List.set_cons_zero,List.set_cons_succ,i64_w,i32_w]
         rfl
        refine pure_ (i:=4) (N:=some 16) (v:=?_) (a':=?_) #[true,true,true,true,true,false,false,false,false,false,false,false] rfl rfl (any_of HT_.out (by kernel_rfl)) (fun _ _ _ h=>h) (Or.inl ⟨by rfl,?_⟩) ?_ ?_
        rotate_left
        ·intro w'
         go_simp
         with_reducible rfl
        rotate_left
        ·simp only [Act.put,List.setIfInBounds_toArray,List.set_cons_zero,List.set_cons_succ,i64_w,i32_w]
         rfl
        refine pure_ (i:=6) (N:=some 18) (v:=?_) (a':=?_) #[true,true,true,true,true,false,true,false,false,false,false,false] rfl rfl (any_of HT_.out (by kernel_rfl)) (fun _ _ _ h=>h) (Or.inl ⟨by rfl,?_⟩) ?_ ?_
        rotate_left
        ·intro w'
         go_simp
         with_reducible rfl
        rotate_left
        ·simp only [Act.put,List.setIfInBounds_toArray,List.set_cons_zero,List.set_cons_succ,i64_w,i32_w]
         rfl
        refine pure_ (i:=7) (N:=some 19) (v:=?_) (a':=?_) #[true,true,true,true,true,false,true,true,false,false,false,false] rfl rfl (any_of HT_.out (by kernel_rfl)) (fun _ _ _ h=>h) (Or.inl ⟨by rfl,?_⟩) ?_ ?_
        rotate_left
        ·intro w'
         go_simp
         with_reducible rfl
        rotate_left
        ·simp only [Act.put,List.setIfInBounds_toArray,List.set_cons_zero,List.set_cons_succ,i64_w,i32_w]
         rfl
        refine pure_ (i:=8) (N:=some 20) (v:=?_) (a':=?_) #[true,true,true,true,true,false,true,true,true,false,false,false] rfl rfl (any_of HT_.out (by kernel_rfl)) (fun _ _ _ h=>h) (Or.inl ⟨by rfl,?_⟩) ?_ ?_
        rotate_left
        ·intro w'
         go_simp
         with_reducible rfl
        rotate_left
        ·simp only [Act.put,List.setIfInBounds_toArray,List.set_cons_zero,List.set_cons_succ,i64_w,i32_w]
         rfl
        refine take_ (i:=5) (N:=some 17) (v:=?_) (a':=?_) #[true,true,true,true,true,true,true,true,true,false,false,false] rfl rfl (take_ofW HT_.out HW_.out (by kernel_rfl)) (fun _ _ _ h=>h) (Or.inl ⟨by rfl,?_⟩) hHeld ?_ ?_
        rotate_left
        ·rintro w' ⟨s0,s1,s2,s3,s4,s5⟩
         go_simp
         with_reducible rfl
        rotate_left
        ·simp only [Act.put,List.setIfInBounds_toArray,List.set_cons_zero,List.set_cons_succ,i64_w,i32_w]
         rfl
        refine take_ (i:=9) (N:=some 21) (v:=?_) (a':=?_) #[true,true,true,true,true,true,true,true,true,true,false,false] rfl rfl (take_ofW HT_.out HW_.out (by kernel_rfl)) (fun _ _ _ h=>h) (Or.inl ⟨by rfl,?_⟩) hHeld ?_ ?_
        rotate_left
        ·rintro w' ⟨s0,s1,s2,s3,s4,s5⟩
         go_simp
         with_reducible rfl
        rotate_left
        ·simp only [Act.put,List.setIfInBounds_toArray,List.set_cons_zero,List.set_cons_succ,i64_w,i32_w]
         rfl
        refine one_ (i:=10) (N:=some 22) #[true,true,true,true,true,true,true,true,true,true,true,false] rfl rfl (one_of HT_.out (by kernel_rfl)) (by decide) (fun K hK=>?_)
        refine goesF_ Try.func65 (by kernel_rfl) rfl #[.agg #[.int .i64 ((rd_T84 l0 (ji4)).f0),.int .i64 ((rd_T84 l0 (ji4)).f1),.int .i64 ((rd_T84 l0 (ji4)).f2)],.agg #[.int .i64 ((rd_T84 l0 x5_1).f0),.int .i64 ((rd_T84 l0 x5_1).f1),.int .i64 ((rd_T84 l0 x5_1).f2)]] (by rfl) rfl rfl (by rfl) (by (try simp only [List.map_toArray,List.map_cons,List.map_nil]);first|done|(simp only [hji4];rfl)|rfl|(simp only [List.length_drop,List.length_take];rfl)) ?_
        with_reducible refine (impl_FontOk_c3.calls k1 ((rd_T84 l0 (ji4)).f0) ((rd_T84 l0 (ji4)).f1) ((rd_T84 l0 (ji4)).f2) ((rd_T84 l0 x5_1).f0) ((rd_T84 l0 x5_1).f1) ((rd_T84 l0 x5_1).f2) t275 _ A8.out).mono ?_
        rintro e w13 ⟨rfl,hb⟩
        refine ⟨_,rfl,?_⟩
        have n0_:=Aside0.mk (below_step (by repeat (first|(with_reducible first|exact HB.out|apply below_alloc|apply pw_below_drewN|apply below_drew1)|exact HB.out)) hb)
        clear HB
        have HB:=n0_
        clear n0_
        (try clear hb)
        (try clear hb2)
        (try clear hk)
        (try clear hi)
        refine hK.out _ _ ⟨((HB.out.cell (World.block_lt_of_cell? w _ hw273_0)).trans hw273_0),((HB.out.cell (World.block_lt_of_cell? w _ hw273_1)).trans hw273_1),((HB.out.cell (World.block_lt_of_cell? w _ hw273_2)).trans hw273_2),((HB.out.cell (World.block_lt_of_cell? w _ hw274_0)).trans hw274_0),((HB.out.cell (World.block_lt_of_cell? w _ hw274_1)).trans hw274_1),((HB.out.cell (World.block_lt_of_cell? w _ hw274_2)).trans hw274_2)⟩ (fun hHeld=>?_)
        clear hK K
        refine norm_ (a':=?_) ?_ ?_
        rotate_left
        ·show Act.put _ (some 22) _=_
         simp only [Act.put,List.setIfInBounds_toArray,List.set_cons_zero,List.set_cons_succ,i64_w,i32_w]
         rfl
        refine pure_ (i:=11) (N:=some 23) (v:=?_) (a':=?_) #[true,true,true,true,true,true,true,true,true,true,true,true] rfl rfl (any_of HT_.out (by kernel_rfl)) (fun _ _ _ h=>h) (Or.inl ⟨by rfl,?_⟩) ?_ ?_
        rotate_left
        ·intro w'
         go_simp
         with_reducible rfl
        rotate_left
        ·simp only [Act.put,List.setIfInBounds_toArray,List.set_cons_zero,List.set_cons_succ,i64_w,i32_w]
         rfl
        refine done_ (done_of HT_.out (by kernel_rfl)) ?_
        try go_wp2
        go_roundg k1
        case measure=>have:=HK1.out;omega
        case rel=>exact ⟨(wrap64 (x5_1+1)),(by first|rfl|(simp;done)|(simp [*];done)),H',⟨by have:=HK1.out;omega⟩,⟨by repeat (first|(with_reducible first|exact HB.out|apply below_alloc|apply pw_below_drewN|apply below_drew1)|exact HB.out)⟩⟩
      ·rw [if_neg c7] at H
       exact absurd H (by simp)
     ·rw [if_neg c6] at H
      exact absurd H (by simp)
    ·rw [if_neg c5] at H
     exact absurd H (by simp)
   ·rw [if_neg c3] at H
    have c3b0:decide (x5_1<(l0.length:Int))=false:=decide_eq_false c3
    clear c3
    obtain rfl:=Option.some.inj H
    go_wp2
    go_ret
    exact ⟨by first|rfl|(simp [errW_none,errW_some]<;>rfl)|(simp [*,errW_none,errW_some]<;>rfl),by repeat (first|(with_reducible first|exact HB.out|apply below_alloc|apply pw_below_drewN|apply below_drew1)|exact HB.out)⟩
end Go.Proofs.Ytiinihponcojkaa.QFnExactAdvance
