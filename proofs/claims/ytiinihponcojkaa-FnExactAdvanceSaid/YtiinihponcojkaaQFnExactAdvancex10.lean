/- Written by a program (wip/tools/own_print.py) out of the walk that the kit's printer made; turned where it fell. -/
-- PRINTED by print.py (a twelfth state) out of the translation. Not trusted: Lean checks it.
import Derived.Test.YtiinihponcojkaaDyn
import Derived.Test.YtiinihponcojkaaQFnExactAdvancex0
import Derived.Test.YtiinihponcojkaaQFnExactAdvancex9
namespace Go.Proofs.Ytiinihponcojkaa.QFnExactAdvance
open Go.RowKit Go.Proofs.YtiinihponcojkaaV.PrintWords Go.Proofs.YtiinihponcojkaaV.PrintLast Go.Proofs.YtiinihponcojkaaV.PrintMore
attribute [local go_sem] max2_int min2_int max_two min_two max_three min_three max_four min_four   -- for this text's walks alone
open Go.Proofs.Ytiinihponcojkaa.Dyn
set_option linter.unusedVariables false
set_option linter.unusedSimpArgs false
/-! ### impl_Kern: function 61 -/
def impl_Kern.l0:Nat→List (S81)→Int→Option (Bool)
 |0,_,_=>none
 |k+1,x0,x5=>if x5<(x0.length:Int) then (if 0≤(wrap64 (x5 - 1)) then (if (wrap64 (x5 - 1))<(x0.length:Int) then (if 0≤x5 then ((impl_FontOk_c2.f k ((rd_T81 x0 (wrap64 (x5 - 1))).f0) ((rd_T81 x0 (wrap64 (x5 - 1))).f1) ((rd_T81 x0 (wrap64 (x5 - 1))).f2) ((rd_T81 x0 x5).f0) ((rd_T81 x0 x5).f1) ((rd_T81 x0 x5).f2)).bind fun t264=>(if t264≥0 then (some false) else (impl_Kern.l0 k x0 (wrap64 (x5+1))))) else (none)) else (none)) else (none)) else (some (decide ((x0.length:Int)≤1000)))
def impl_Kern.f (k:Nat) (l0:List (S81)) (a1:Int):Option (Bool):=impl_Kern.l0 k l0 1
theorem impl_Kern.mono_l:∀ k,(∀ y0 y1,LeO (impl_Kern.l0 k y0 y1) (impl_Kern.l0 (k+1) y0 y1))
 |0=>fun _ _ r h=>by simp [impl_Kern.l0] at h
 |k+1=>by
  have ih0:=impl_Kern.mono_l k
  ·intro y0 y1
   unfold impl_Kern.l0
   repeat' first
   |(with_reducible exact ih0 _ _)
   |(with_reducible exact impl_FontOk_c2.mono _ _ _ _ _ _ _)
   |(with_reducible exact LeO.refl _)
   |(with_reducible exact LeO.none _)
   |(with_reducible refine LeO.ite ?_ ?_)
   |(with_reducible refine LeO.bind ?_ (fun _=>?_))
   |exact ih0 _ _
   |exact impl_FontOk_c2.mono _ _ _ _ _ _ _
   |exact LeO.none _
   |refine LeO.ite ?_ ?_
   |refine LeO.bind ?_ (fun _=>?_)
theorem impl_Kern.mono:∀ a0 a1 k,LeO (impl_Kern.f k a0 a1) (impl_Kern.f (k+1) a0 a1):=by
 intro a0 a1 k
 have ih0:=impl_Kern.mono_l k
 unfold impl_Kern.f
 repeat' first
   |(with_reducible exact ih0 _ _)
   |(with_reducible exact impl_FontOk_c2.mono _ _ _ _ _ _ _)
   |(with_reducible exact LeO.refl _)
   |(with_reducible exact LeO.none _)
   |(with_reducible refine LeO.ite ?_ ?_)
   |(with_reducible refine LeO.bind ?_ (fun _=>?_))
   |exact ih0 _ _
   |exact impl_FontOk_c2.mono _ _ _ _ _ _ _
   |exact LeO.none _
   |refine LeO.ite ?_ ?_
   |refine LeO.bind ?_ (fun _=>?_)
def impl_Kern.T4:Bool×List (List Nat×List Nat):=(true,[([],[]),([],[]),([],[]),([2],[2]),([1,3],[1,3]),([4],[4]),([],[]),([],[]),([6,7],[6,7]),([8],[8]),([0,5,9],[0,5,9]),([10],[10])])
def impl_Kern.B4:List Nat:=[0,0,0,4,14,30,0,0,192,448,1023,2047]
theorem impl_Kern.tab4:rtab .any (opsOf Try.f61 4)=impl_Kern.T4:=by kernel_rfl
theorem impl_Kern.bits4:waitsOk impl_Kern.T4.2 impl_Kern.B4=true:=by kernel_rfl
set_option maxHeartbeats 8000000 in
set_option maxRecDepth 100000 in
theorem impl_Kern.calls (k:Nat) (A0:Option Addr) (c0:Nat) (l0:List (S81)) (a1:Int) (r:Bool) (w:World) (hr0:Kd.C k81 w A0 l0.length l0) (hc0:l0.length≤c0) (h:impl_Kern.f k l0 a1=some r) :
  Calls Try.prog 61 #[.slice A0 l0.length c0,.func (.func 62) #[] #[]] w fun e w'=>e=.returned (.bool r)∧Below w.heap.size w w':=by
 have hu81:=Try.underlying81
 have HR0:=Aside0.mk hr0
 have HC0:=Aside0.mk hc0
 clear hr0 hc0
 have HB:=Aside0.mk (Below.refl w.heap.size w)
 have H:(impl_Kern.l0 k l0 1)=some r:=h
 clear h
 have H':=Aside0.mk H
 clear H
 go_enter Try.func61,Try.ntmps61
 go_wp2
 go_loopg [5] k (fun kq v5 w'=>∃ (x5_1:Int),v5=.int .i64 x5_1∧Aside0 (impl_Kern.l0 kq l0 x5_1=some r)∧Aside0 (kq≤k)∧Aside0 (Below w.heap.size w w'))
 case atStart=>exact ⟨(1),(by first|rfl|(simp;done)|(simp [*];done)),H',⟨Nat.le_refl _⟩,⟨by repeat (first|(with_reducible first|exact HB.out|apply below_alloc|apply pw_below_drewN|apply below_drew1)|exact HB.out)⟩⟩
 case round=>
  clear H'
  try clear p2
  obtain ⟨x5_1,rfl,HA,HK1,HB⟩:=hrel
  cases gk with
  |zero=>exact absurd HA.out (by simp [impl_Kern.l0])
  |succ k1=>
   have H:=HA.out
   clear HA
   simp only [impl_Kern.l0] at H
   by_cases c3:x5_1<(l0.length:Int)
   ·rw [if_pos c3] at H
    have c3b0:decide (x5_1<(l0.length:Int))=true:=decide_eq_true c3
    clear c3
    obtain ⟨ji4,hji4⟩:∃ j_:Int,(wrap64 (x5_1 - 1))=j_:=⟨_,rfl⟩
    replace H:(if 0≤(ji4) then (if (ji4)<(l0.length:Int) then (if 0≤x5_1 then ((impl_FontOk_c2.f k1 ((rd_T81 l0 (ji4)).f0) ((rd_T81 l0 (ji4)).f1) ((rd_T81 l0 (ji4)).f2) ((rd_T81 l0 x5_1).f0) ((rd_T81 l0 x5_1).f1) ((rd_T81 l0 x5_1).f2)).bind fun t264=>(if t264≥0 then (some false) else (impl_Kern.l0 k1 l0 (wrap64 (x5_1+1))))) else (none)) else (none)) else (none))=some r:=by first|(rw [hji4] at H;exact H)|(simp only [hji4] at H ⊢;exact H)
    have hji4w:(IntKind.i64.wrap (x5_1 - 1))=ji4:=(i64_w _).trans hji4
    by_cases c5:0≤(ji4)
    ·rw [if_pos c5] at H
     have c5b0:decide (0≤(ji4))=true:=decide_eq_true c5
     clear c5
     by_cases c6:(ji4)<(l0.length:Int)
     ·rw [if_pos c6] at H
      have c6b0:decide ((ji4)<(l0.length:Int))=true:=decide_eq_true c6
      clear c6
      by_cases c7:0≤x5_1
      ·rw [if_pos c7] at H
       have c7b0:decide (0≤x5_1)=true:=decide_eq_true c7
       clear c7
       replace H:=Option.bind_eq_some_iff.mp H
       obtain ⟨t264,A80,H⟩:=H
       replace H:(if t264≥0 then (some false) else (impl_Kern.l0 k1 l0 (wrap64 (x5_1+1))))=some r:=H
       have A8:=Aside0.mk A80
       clear A80
       by_cases c9:t264≥0
       ·rw [if_pos c9] at H
        have c9b0:decide (0≤t264)=true:=decide_eq_true c9
        clear c9
        obtain rfl:=Option.some.inj H
        try go_wp2
        have n0_:=Aside0.mk (below_drew1 HB.out)
        clear HB
        have HB:=n0_
        clear n0_
        have p262:0≤((ji4):Int):=of_decide_eq_true (by first|(with_reducible assumption)|assumption)
        have q262:(ji4)<(l0.length:Int):=of_decide_eq_true (by first|(with_reducible assumption)|assumption)
        obtain ⟨ad262,e262,hx262_0,hx262_1,hx262_2⟩:=at_T81 HR0.out (ji4) p262 q262
        have hw262_2:=hx262_2
        have hw262_1:=hx262_1
        have hw262_0:=hx262_0
        cases e262
        replace hx262_0:=(HB.out.cell (World.block_lt_of_cell? w _ hx262_0)).trans hx262_0
        replace hx262_1:=(HB.out.cell (World.block_lt_of_cell? w _ hx262_1)).trans hx262_1
        replace hx262_2:=(HB.out.cell (World.block_lt_of_cell? w _ hx262_2)).trans hx262_2
        replace p262:=eq_true p262
        replace q262:=eq_true q262
        have p263:0≤(x5_1:Int):=of_decide_eq_true (by first|(with_reducible assumption)|assumption)
        have q263:x5_1<(l0.length:Int):=of_decide_eq_true (by first|(with_reducible assumption)|assumption)
        obtain ⟨ad263,e263,hx263_0,hx263_1,hx263_2⟩:=at_T81 HR0.out x5_1 p263 q263
        have hw263_2:=hx263_2
        have hw263_1:=hx263_1
        have hw263_0:=hx263_0
        obtain rfl:ad262=ad263:=(by injection e263)
        replace hx263_0:=(HB.out.cell (World.block_lt_of_cell? w _ hx263_0)).trans hx263_0
        replace hx263_1:=(HB.out.cell (World.block_lt_of_cell? w _ hx263_1)).trans hx263_1
        replace hx263_2:=(HB.out.cell (World.block_lt_of_cell? w _ hx263_2)).trans hx263_2
        replace p263:=eq_true p263
        replace q263:=eq_true q263
        refine start_ (n:=12) (S:=fun w'=>w'.cell? (ad262.add (((ji4)).toNat*3))=some (.int .i64 ((rd_T81 l0 (ji4)).f0))∧w'.cell? ⟨(ad262.add (((ji4)).toNat*3)).block,(ad262.add (((ji4)).toNat*3)).off+1,none⟩=some (.int .i64 ((rd_T81 l0 (ji4)).f1))∧w'.cell? ⟨(ad262.add (((ji4)).toNat*3)).block,(ad262.add (((ji4)).toNat*3)).off+2,none⟩=some (.int .i64 ((rd_T81 l0 (ji4)).f2))∧w'.cell? (ad262.add ((x5_1).toNat*3))=some (.int .i64 ((rd_T81 l0 x5_1).f0))∧w'.cell? ⟨(ad262.add ((x5_1).toNat*3)).block,(ad262.add ((x5_1).toNat*3)).off+1,none⟩=some (.int .i64 ((rd_T81 l0 x5_1).f1))∧w'.cell? ⟨(ad262.add ((x5_1).toNat*3)).block,(ad262.add ((x5_1).toNat*3)).off+2,none⟩=some (.int .i64 ((rd_T81 l0 x5_1).f2))) (ds:=[]) #[false,false,false,false,false,false,false,false,false,false,false,false] (by kernel_rfl) rfl rfl ⟨((HB.out.cell (World.block_lt_of_cell? w _ hw262_0)).trans hw262_0),((HB.out.cell (World.block_lt_of_cell? w _ hw262_1)).trans hw262_1),((HB.out.cell (World.block_lt_of_cell? w _ hw262_2)).trans hw262_2),((HB.out.cell (World.block_lt_of_cell? w _ hw263_0)).trans hw263_0),((HB.out.cell (World.block_lt_of_cell? w _ hw263_1)).trans hw263_1),((HB.out.cell (World.block_lt_of_cell? w _ hw263_2)).trans hw263_2)⟩ (fun hHeld=>?_);refine with_tabW impl_Kern.tab4 impl_Kern.bits4 (fun HT_ HW_=>?_)
        generalize wr.drew=w10 at HB hx262_0 hx262_1 hx262_2 hx263_0 hx263_1 hx263_2 hHeld ⊢
        refine pure_ (i:=0) (N:=some 12) (v:=?_) (a':=?_) #[true,false,false,false,false,false,false,false,false,false,false,false] rfl rfl (any_of HT_.out (by kernel_rfl)) (fun _ _ _ h=>h) (Or.inl ⟨by rfl,?_⟩) ?_ ?_
        rotate_left
        ·intro w'
         go_simp
         with_reducible rfl
        rotate_left
        ·simp only [Act.put,List.setIfInBounds_toArray,List.set_cons_zero,List.set_cons_succ,i64_w,i32_w]
         rfl
        refine pure_ (i:=1) (N:=some 13) (v:=?_) (a':=?_) #[true,true,false,false,false,false,false,false,false,false,false,false] rfl rfl (any_of HT_.out (by kernel_rfl)) (fun _ _ _ h=>h) (Or.inl ⟨by rfl,?_⟩) ?_ ?_
        rotate_left
        ·intro w'
         go_simp
         with_reducible rfl
        rotate_left
        ·simp only [Act.put,List.setIfInBounds_toArray,List.set_cons_zero,List.set_cons_succ,i64_w,i32_w]
         rfl
        refine pure_ (i:=2) (N:=some 14) (v:=?_) (a':=?_) #[true,true,true,false,false,false,false,false,false,false,false,false] rfl rfl (any_of HT_.out (by kernel_rfl)) (fun _ _ _ h=>h) (Or.inl ⟨by rfl,?_⟩) ?_ ?_
        rotate_left
        ·intro w'
         go_simp
         with_reducible rfl
        rotate_left
        ·simp only [Act.put,List.setIfInBounds_toArray,List.set_cons_zero,List.set_cons_succ,i64_w,i32_w]
         rfl
        refine pure_ (i:=3) (N:=some 15) (v:=?_) (a':=?_) #[true,true,true,true,false,false,false,false,false,false,false,false] rfl rfl (any_of HT_.out (by kernel_rfl)) (fun _ _ _ h=>h) (Or.inl ⟨by rfl,?_⟩) ?_ ?_
        rotate_left
        ·intro w'
         go_simp
         with_reducible rfl
        rotate_left
        ·simp only [Act.put,List.setIfInBounds_toArray,List.set_cons_zero,List.set_cons_succ,i64_w,i32_w]
         rfl
        refine pure_ (i:=4) (N:=some 16) (v:=?_) (a':=?_) #[true,true,true,true,true,false,false,false,false,false,false,false] rfl rfl (any_of HT_.out (by kernel_rfl)) (fun _ _ _ h=>h) (Or.inl ⟨by rfl,?_⟩) ?_ ?_
        rotate_left
        ·intro w'
         go_simp
         with_reducible rfl
        rotate_left
        ·simp only [Act.put,List.setIfInBounds_toArray,List.set_cons_zero,List.set_cons_succ,i64_w,i32_w]
         rfl
        refine pure_ (i:=6) (N:=some 18) (v:=?_) (a':=?_) #[true,true,true,true,true,false,true,false,false,false,false,false] rfl rfl (any_of HT_.out (by kernel_rfl)) (fun _ _ _ h=>h) (Or.inl ⟨by rfl,?_⟩) ?_ ?_
        rotate_left
        ·intro w'
         go_simp
         with_reducible rfl
        rotate_left
        ·simp only [Act.put,List.setIfInBounds_toArray,List.set_cons_zero,List.set_cons_succ,i64_w,i32_w]
         rfl
        refine pure_ (i:=7) (N:=some 19) (v:=?_) (a':=?_) #[true,true,true,true,true,false,true,true,false,false,false,false] rfl rfl (any_of HT_.out (by kernel_rfl)) (fun _ _ _ h=>h) (Or.inl ⟨by rfl,?_⟩) ?_ ?_
        rotate_left
        ·intro w'
         go_simp
         with_reducible rfl
        rotate_left
        ·simp only [Act.put,List.setIfInBounds_toArray,List.set_cons_zero,List.set_cons_succ,i64_w,i32_w]
         rfl
        refine pure_ (i:=8) (N:=some 20) (v:=?_) (a':=?_) #[true,true,true,true,true,false,true,true,true,false,false,false] rfl rfl (any_of HT_.out (by kernel_rfl)) (fun _ _ _ h=>h) (Or.inl ⟨by rfl,?_⟩) ?_ ?_
        rotate_left
        ·intro w'
         go_simp
         with_reducible rfl
        rotate_left
        ·simp only [Act.put,List.setIfInBounds_toArray,List.set_cons_zero,List.set_cons_succ,i64_w,i32_w]
         rfl
        refine take_ (i:=5) (N:=some 17) (v:=?_) (a':=?_) #[true,true,true,true,true,true,true,true,true,false,false,false] rfl rfl (take_ofW HT_.out HW_.out (by kernel_rfl)) (fun _ _ _ h=>h) (Or.inl ⟨by rfl,?_⟩) hHeld ?_ ?_
        rotate_left
        ·rintro w' ⟨s0,s1,s2,s3,s4,s5⟩
         go_simp
         with_reducible rfl
        rotate_left
        ·simp only [Act.put,List.setIfInBounds_toArray,List.set_cons_zero,List.set_cons_succ,i64_w,i32_w]
         rfl
        refine take_ (i:=9) (N:=some 21) (v:=?_) (a':=?_) #[true,true,true,true,true,true,true,true,true,true,false,false] rfl rfl (take_ofW HT_.out HW_.out (by kernel_rfl)) (fun _ _ _ h=>h) (Or.inl ⟨by rfl,?_⟩) hHeld ?_ ?_
        rotate_left
        ·rintro w' ⟨s0,s1,s2,s3,s4,s5⟩
         go_simp
         with_reducible rfl
        rotate_left
        ·simp only [Act.put,List.setIfInBounds_toArray,List.set_cons_zero,List.set_cons_succ,i64_w,i32_w]
         rfl
        refine one_ (i:=10) (N:=some 22) #[true,true,true,true,true,true,true,true,true,true,true,false] rfl rfl (one_of HT_.out (by kernel_rfl)) (by decide) (fun K hK=>?_)
        refine goesF_ Try.func62 (by kernel_rfl) rfl #[.agg #[.int .i64 ((rd_T81 l0 (ji4)).f0),.int .i64 ((rd_T81 l0 (ji4)).f1),.int .i64 ((rd_T81 l0 (ji4)).f2)],.agg #[.int .i64 ((rd_T81 l0 x5_1).f0),.int .i64 ((rd_T81 l0 x5_1).f1),.int .i64 ((rd_T81 l0 x5_1).f2)]] (by rfl) rfl rfl (by rfl) (by (try simp only [List.map_toArray,List.map_cons,List.map_nil]);first|done|(simp only [hji4];rfl)|rfl|(simp only [List.length_drop,List.length_take];rfl)) ?_
        with_reducible refine (impl_FontOk_c2.calls k1 ((rd_T81 l0 (ji4)).f0) ((rd_T81 l0 (ji4)).f1) ((rd_T81 l0 (ji4)).f2) ((rd_T81 l0 x5_1).f0) ((rd_T81 l0 x5_1).f1) ((rd_T81 l0 x5_1).f2) t264 _ A8.out).mono ?_
        rintro e w11 ⟨rfl,hb⟩
        refine ⟨_,rfl,?_⟩
        have n0_:=Aside0.mk (below_step (by repeat (first|(with_reducible first|exact HB.out|apply below_alloc|apply pw_below_drewN|apply below_drew1)|exact HB.out)) hb)
        clear HB
        have HB:=n0_
        clear n0_
        (try clear hb)
        (try clear hb2)
        (try clear hk)
        (try clear hi)
        refine hK.out _ _ ⟨((HB.out.cell (World.block_lt_of_cell? w _ hw262_0)).trans hw262_0),((HB.out.cell (World.block_lt_of_cell? w _ hw262_1)).trans hw262_1),((HB.out.cell (World.block_lt_of_cell? w _ hw262_2)).trans hw262_2),((HB.out.cell (World.block_lt_of_cell? w _ hw263_0)).trans hw263_0),((HB.out.cell (World.block_lt_of_cell? w _ hw263_1)).trans hw263_1),((HB.out.cell (World.block_lt_of_cell? w _ hw263_2)).trans hw263_2)⟩ (fun hHeld=>?_)
        clear hK K
        refine norm_ (a':=?_) ?_ ?_
        rotate_left
        ·show Act.put _ (some 22) _=_
         simp only [Act.put,List.setIfInBounds_toArray,List.set_cons_zero,List.set_cons_succ,i64_w,i32_w]
         rfl
        refine pure_ (i:=11) (N:=some 23) (v:=?_) (a':=?_) #[true,true,true,true,true,true,true,true,true,true,true,true] rfl rfl (any_of HT_.out (by kernel_rfl)) (fun _ _ _ h=>h) (Or.inl ⟨by rfl,?_⟩) ?_ ?_
        rotate_left
        ·intro w'
         go_simp
         with_reducible rfl
        rotate_left
        ·simp only [Act.put,List.setIfInBounds_toArray,List.set_cons_zero,List.set_cons_succ,i64_w,i32_w]
         rfl
        refine done_ (done_of HT_.out (by kernel_rfl)) ?_
        try go_wp2
        go_ret
        exact ⟨by first|rfl|(simp [errW_none,errW_some]<;>rfl)|(simp only [← hji4];first|rfl|(simp [errW_none,errW_some]<;>rfl))|(simp [*,errW_none,errW_some]<;>rfl),by repeat (first|(with_reducible first|exact HB.out|apply below_alloc|apply pw_below_drewN|apply below_drew1)|exact HB.out)⟩
       ·rw [if_neg c9] at H
        have c9b0:decide (0≤t264)=false:=decide_eq_false c9
        clear c9
        have H':=Aside0.mk H
        clear H
        try go_wp2
        have n0_:=Aside0.mk (below_drew1 HB.out)
        clear HB
        have HB:=n0_
        clear n0_
        have p262:0≤((ji4):Int):=of_decide_eq_true (by first|(with_reducible assumption)|assumption)
        have q262:(ji4)<(l0.length:Int):=of_decide_eq_true (by first|(with_reducible assumption)|assumption)
        obtain ⟨ad262,e262,hx262_0,hx262_1,hx262_2⟩:=at_T81 HR0.out (ji4) p262 q262
        have hw262_2:=hx262_2
        have hw262_1:=hx262_1
        have hw262_0:=hx262_0
        cases e262
        replace hx262_0:=(HB.out.cell (World.block_lt_of_cell? w _ hx262_0)).trans hx262_0
        replace hx262_1:=(HB.out.cell (World.block_lt_of_cell? w _ hx262_1)).trans hx262_1
        replace hx262_2:=(HB.out.cell (World.block_lt_of_cell? w _ hx262_2)).trans hx262_2
        replace p262:=eq_true p262
        replace q262:=eq_true q262
        have p263:0≤(x5_1:Int):=of_decide_eq_true (by first|(with_reducible assumption)|assumption)
        have q263:x5_1<(l0.length:Int):=of_decide_eq_true (by first|(with_reducible assumption)|assumption)
        obtain ⟨ad263,e263,hx263_0,hx263_1,hx263_2⟩:=at_T81 HR0.out x5_1 p263 q263
        have hw263_2:=hx263_2
        have hw263_1:=hx263_1
        have hw263_0:=hx263_0
        obtain rfl:ad262=ad263:=(by injection e263)
        replace hx263_0:=(HB.out.cell (World.block_lt_of_cell? w _ hx263_0)).trans hx263_0
        replace hx263_1:=(HB.out.cell (World.block_lt_of_cell? w _ hx263_1)).trans hx263_1
        replace hx263_2:=(HB.out.cell (World.block_lt_of_cell? w _ hx263_2)).trans hx263_2
        replace p263:=eq_true p263
        replace q263:=eq_true q263
        refine start_ (n:=12) (S:=fun w'=>w'.cell? (ad262.add (((ji4)).toNat*3))=some (.int .i64 ((rd_T81 l0 (ji4)).f0))∧w'.cell? ⟨(ad262.add (((ji4)).toNat*3)).block,(ad262.add (((ji4)).toNat*3)).off+1,none⟩=some (.int .i64 ((rd_T81 l0 (ji4)).f1))∧w'.cell? ⟨(ad262.add (((ji4)).toNat*3)).block,(ad262.add (((ji4)).toNat*3)).off+2,none⟩=some (.int .i64 ((rd_T81 l0 (ji4)).f2))∧w'.cell? (ad262.add ((x5_1).toNat*3))=some (.int .i64 ((rd_T81 l0 x5_1).f0))∧w'.cell? ⟨(ad262.add ((x5_1).toNat*3)).block,(ad262.add ((x5_1).toNat*3)).off+1,none⟩=some (.int .i64 ((rd_T81 l0 x5_1).f1))∧w'.cell? ⟨(ad262.add ((x5_1).toNat*3)).block,(ad262.add ((x5_1).toNat*3)).off+2,none⟩=some (.int .i64 ((rd_T81 l0 x5_1).f2))) (ds:=[]) #[false,false,false,false,false,false,false,false,false,false,false,false] (by kernel_rfl) rfl rfl ⟨((HB.out.cell (World.block_lt_of_cell? w _ hw262_0)).trans hw262_0),((HB.out.cell (World.block_lt_of_cell? w _ hw262_1)).trans hw262_1),((HB.out.cell (World.block_lt_of_cell? w _ hw262_2)).trans hw262_2),((HB.out.cell (World.block_lt_of_cell? w _ hw263_0)).trans hw263_0),((HB.out.cell (World.block_lt_of_cell? w _ hw263_1)).trans hw263_1),((HB.out.cell (World.block_lt_of_cell? w _ hw263_2)).trans hw263_2)⟩ (fun hHeld=>?_);refine with_tabW impl_Kern.tab4 impl_Kern.bits4 (fun HT_ HW_=>?_)
        generalize wr.drew=w12 at HB hx262_0 hx262_1 hx262_2 hx263_0 hx263_1 hx263_2 hHeld ⊢
        refine pure_ (i:=0) (N:=some 12) (v:=?_) (a':=?_) #[true,false,false,false,false,false,false,false,false,false,false,false] rfl rfl (any_of HT_.out (by kernel_rfl)) (fun _ _ _ h=>h) (Or.inl ⟨by rfl,?_⟩) ?_ ?_
        rotate_left
        ·intro w'
         go_simp
         with_reducible rfl
        rotate_left
        ·simp only [Act.put,List.setIfInBounds_toArray,List.set_cons_zero,List.set_cons_succ,i64_w,i32_w]
         rfl
        refine pure_ (i:=1) (N:=some 13) (v:=?_) (a':=?_) #[true,true,false,false,false,false,false,false,false,false,false,false] rfl rfl (any_of HT_.out (by kernel_rfl)) (fun _ _ _ h=>h) (Or.inl ⟨by rfl,?_⟩) ?_ ?_
        rotate_left
        ·intro w'
         go_simp
         with_reducible rfl
        rotate_left
        ·simp only [Act.put,List.setIfInBounds_toArray,List.set_cons_zero,List.set_cons_succ,i64_w,i32_w]
         rfl
        refine pure_ (i:=2) (N:=some 14) (v:=?_) (a':=?_) #[true,true,true,false,false,false,false,false,false,false,false,false] rfl rfl (any_of HT_.out (by kernel_rfl)) (fun _ _ _ h=>h) (Or.inl ⟨by rfl,?_⟩) ?_ ?_
        rotate_left
        ·intro w'
         go_simp
         with_reducible rfl
        rotate_left
        ·simp only [Act.put,List.setIfInBounds_toArray,List.set_cons_zero,List.set_cons_succ,i64_w,i32_w]
         rfl
        refine pure_ (i:=3) (N:=some 15) (v:=?_) (a':=?_) #[true,true,true,true,false,false,false,false,false,false,false,false] rfl rfl (any_of HT_.out (by kernel_rfl)) (fun _ _ _ h=>h) (Or.inl ⟨by rfl,?_⟩) ?_ ?_
        rotate_left
        ·intro w'
         go_simp
         with_reducible rfl
        rotate_left
        ·simp only [Act.put,List.setIfInBounds_toArray,List.set_cons_zero,List.set_cons_succ,i64_w,i32_w]
         rfl
        refine pure_ (i:=4) (N:=some 16) (v:=?_) (a':=?_) #[true,true,true,true,true,false,false,false,false,false,false,false] rfl rfl (any_of HT_.out (by kernel_rfl)) (fun _ _ _ h=>h) (Or.inl ⟨by rfl,?_⟩) ?_ ?_
        rotate_left
        ·intro w'
         go_simp
         with_reducible rfl
        rotate_left
        ·simp only [Act.put,List.setIfInBounds_toArray,List.set_cons_zero,List.set_cons_succ,i64_w,i32_w]
         rfl
        refine pure_ (i:=6) (N:=some 18) (v:=?_) (a':=?_) #[true,true,true,true,true,false,true,false,false,false,false,false] rfl rfl (any_of HT_.out (by kernel_rfl)) (fun _ _ _ h=>h) (Or.inl ⟨by rfl,?_⟩) ?_ ?_
        rotate_left
        ·intro w'
         go_simp
         with_reducible rfl
        rotate_left
        ·simp only [Act.put,List.setIfInBounds_toArray,List.set_cons_zero,List.set_cons_succ,i64_w,i32_w]
         rfl
        refine pure_ (i:=7) (N:=some 19) (v:=?_) (a':=?_) #[true,true,true,true,true,false,true,true,false,false,false,false] rfl rfl (any_of HT_.out (by kernel_rfl)) (fun _ _ _ h=>h) (Or.inl ⟨by rfl,?_⟩) ?_ ?_
        rotate_left
        ·intro w'
         go_simp
         with_reducible rfl
        rotate_left
        ·simp only [Act.put,List.setIfInBounds_toArray,List.set_cons_zero,List.set_cons_succ,i64_w,i32_w]
         rfl
        refine pure_ (i:=8) (N:=some 20) (v:=?_) (a':=?_) #[true,true,true,true,true,false,true,true,true,false,false,false] rfl rfl (any_of HT_.out (by kernel_rfl)) (fun _ _ _ h=>h) (Or.inl ⟨by rfl,?_⟩) ?_ ?_
        rotate_left
        ·intro w'
         go_simp
         with_reducible rfl
        rotate_left
        ·simp only [Act.put,List.setIfInBounds_toArray,List.set_cons_zero,List.set_cons_succ,i64_w,i32_w]
         rfl
        refine take_ (i:=5) (N:=some 17) (v:=?_) (a':=?_) #[true,true,true,true,true,true,true,true,true,false,false,false] rfl rfl (take_ofW HT_.out HW_.out (by kernel_rfl)) (fun _ _ _ h=>h) (Or.inl ⟨by rfl,?_⟩) hHeld ?_ ?_
        rotate_left
        ·rintro w' ⟨s0,s1,s2,s3,s4,s5⟩
         go_simp
         with_reducible rfl
        rotate_left
        ·simp only [Act.put,List.setIfInBounds_toArray,List.set_cons_zero,List.set_cons_succ,i64_w,i32_w]
         rfl
        refine take_ (i:=9) (N:=some 21) (v:=?_) (a':=?_) #[true,true,true,true,true,true,true,true,true,true,false,false] rfl rfl (take_ofW HT_.out HW_.out (by kernel_rfl)) (fun _ _ _ h=>h) (Or.inl ⟨by rfl,?_⟩) hHeld ?_ ?_
        rotate_left
        ·rintro w' ⟨s0,s1,s2,s3,s4,s5⟩
         go_simp
         with_reducible rfl
        rotate_left
        ·simp only [Act.put,List.setIfInBounds_toArray,List.set_cons_zero,List.set_cons_succ,i64_w,i32_w]
         rfl
        refine one_ (i:=10) (N:=some 22) #[true,true,true,true,true,true,true,true,true,true,true,false] rfl rfl (one_of HT_.out (by kernel_rfl)) (by decide) (fun K hK=>?_)
        refine goesF_ Try.func62 (by kernel_rfl) rfl #[.agg #[.int .i64 ((rd_T81 l0 (ji4)).f0),.int .i64 ((rd_T81 l0 (ji4)).f1),.int .i64 ((rd_T81 l0 (ji4)).f2)],.agg #[.int .i64 ((rd_T81 l0 x5_1).f0),.int .i64 ((rd_T81 l0 x5_1).f1),.int .i64 ((rd_T81 l0 x5_1).f2)]] (by rfl) rfl rfl (by rfl) (by (try simp only [List.map_toArray,List.map_cons,List.map_nil]);first|done|(simp only [hji4];rfl)|rfl|(simp only [List.length_drop,List.length_take];rfl)) ?_
        with_reducible refine (impl_FontOk_c2.calls k1 ((rd_T81 l0 (ji4)).f0) ((rd_T81 l0 (ji4)).f1) ((rd_T81 l0 (ji4)).f2) ((rd_T81 l0 x5_1).f0) ((rd_T81 l0 x5_1).f1) ((rd_T81 l0 x5_1).f2) t264 _ A8.out).mono ?_
        rintro e w13 ⟨rfl,hb⟩
        refine ⟨_,rfl,?_⟩
        have n0_:=Aside0.mk (below_step (by repeat (first|(with_reducible first|exact HB.out|apply below_alloc|apply pw_below_drewN|apply below_drew1)|exact HB.out)) hb)
        clear HB
        have HB:=n0_
        clear n0_
        (try clear hb)
        (try clear hb2)
        (try clear hk)
        (try clear hi)
        refine hK.out _ _ ⟨((HB.out.cell (World.block_lt_of_cell? w _ hw262_0)).trans hw262_0),((HB.out.cell (World.block_lt_of_cell? w _ hw262_1)).trans hw262_1),((HB.out.cell (World.block_lt_of_cell? w _ hw262_2)).trans hw262_2),((HB.out.cell (World.block_lt_of_cell? w _ hw263_0)).trans hw263_0),((HB.out.cell (World.block_lt_of_cell? w _ hw263_1)).trans hw263_1),((HB.out.cell (World.block_lt_of_cell? w _ hw263_2)).trans hw263_2)⟩ (fun hHeld=>?_)
        clear hK K
        refine norm_ (a':=?_) ?_ ?_
        rotate_left
        ·show Act.put _ (some 22) _=_
         simp only [Act.put,List.setIfInBounds_toArray,List.set_cons_zero,List.set_cons_succ,i64_w,i32_w]
         rfl
        refine pure_ (i:=11) (N:=some 23) (v:=?_) (a':=?_) #[true,true,true,true,true,true,true,true,true,true,true,true] rfl rfl (any_of HT_.out (by kernel_rfl)) (fun _ _ _ h=>h) (Or.inl ⟨by rfl,?_⟩) ?_ ?_
        rotate_left
        ·intro w'
         go_simp
         with_reducible rfl
        rotate_left
        ·simp only [Act.put,List.setIfInBounds_toArray,List.set_cons_zero,List.set_cons_succ,i64_w,i32_w]
         rfl
        refine done_ (done_of HT_.out (by kernel_rfl)) ?_
        try go_wp2
        go_roundg k1
        case measure=>have:=HK1.out;omega
        case rel=>exact ⟨(wrap64 (x5_1+1)),(by first|rfl|(simp;done)|(simp [*];done)),H',⟨by have:=HK1.out;omega⟩,⟨by repeat (first|(with_reducible first|exact HB.out|apply below_alloc|apply pw_below_drewN|apply below_drew1)|exact HB.out)⟩⟩
      ·rw [if_neg c7] at H
       exact absurd H (by simp)
     ·rw [if_neg c6] at H
      exact absurd H (by simp)
    ·rw [if_neg c5] at H
     exact absurd H (by simp)
   ·rw [if_neg c3] at H
    have c3b0:decide (x5_1<(l0.length:Int))=false:=decide_eq_false c3
    clear c3
    obtain rfl:=Option.some.inj H
    go_wp2
    go_ret
    exact ⟨by first|rfl|(simp [errW_none,errW_some]<;>rfl)|(simp [*,errW_none,errW_some]<;>rfl),by repeat (first|(with_reducible first|exact HB.out|apply below_alloc|apply pw_below_drewN|apply below_drew1)|exact HB.out)⟩
/-! ### impl_FontOk_c3: function 65 -/
def impl_FontOk_c3.f (k:Nat) (a0_0:Int) (a0_1:Int) (a0_2:Int) (a1_0:Int) (a1_1:Int) (a1_2:Int):Option (Int):=(cmp_Compare_int.f a0_0 a1_0).bind fun t267=>((cmp_Compare_int.f a0_1 a1_1).bind fun t268=>((cmp_Or_int.f k (([t267,t268]:List Int))).bind fun t272=>(some t272)))
theorem impl_FontOk_c3.mono:∀ a0 a1 a2 a3 a4 a5 k,LeO (impl_FontOk_c3.f k a0 a1 a2 a3 a4 a5) (impl_FontOk_c3.f (k+1) a0 a1 a2 a3 a4 a5):=by
 intro a0 a1 a2 a3 a4 a5 k
 unfold impl_FontOk_c3.f
 repeat' first
   |(with_reducible exact cmp_Or_int.mono _ _)
   |(with_reducible exact LeO.refl _)
   |(with_reducible exact LeO.none _)
   |(with_reducible refine LeO.ite ?_ ?_)
   |(with_reducible refine LeO.bind ?_ (fun _=>?_))
   |exact cmp_Or_int.mono _ _
   |exact LeO.none _
   |refine LeO.ite ?_ ?_
   |refine LeO.bind ?_ (fun _=>?_)
def impl_FontOk_c3.T1:Bool×List (List Nat×List Nat):=(true,[([],[]),([0],[0]),([],[]),([2],[2]),([1,3],[1,3]),([],[]),([5],[5]),([],[]),([7],[7]),([6,8,4],[6,8]),([4,9],[4,9]),([10,9],[10]),([11,11,0,1,2,3,4,5,6,7,8,9,10,11],[11])])
def impl_FontOk_c3.B1:List Nat:=[0,1,0,4,15,0,32,0,128,511,1023,2047,4095]
theorem impl_FontOk_c3.tab1:rtab .any (opsOf Try.f65 1)=impl_FontOk_c3.T1:=by kernel_rfl
theorem impl_FontOk_c3.bits1:waitsOk impl_FontOk_c3.T1.2 impl_FontOk_c3.B1=true:=by kernel_rfl
set_option maxHeartbeats 8000000 in
set_option maxRecDepth 100000 in
theorem impl_FontOk_c3.calls (k:Nat) (a0_0:Int) (a0_1:Int) (a0_2:Int) (a1_0:Int) (a1_1:Int) (a1_2:Int) (r:Int) (w:World) (h:impl_FontOk_c3.f k a0_0 a0_1 a0_2 a1_0 a1_1 a1_2=some r) :
  Calls Try.prog 65 #[.agg #[.int .i64 a0_0,.int .i64 a0_1,.int .i64 a0_2],.agg #[.int .i64 a1_0,.int .i64 a1_1,.int .i64 a1_2]] w fun e w'=>e=.returned (.int .i64 r)∧Below w.heap.size w w':=by
 have hu84:=Try.underlying84
 have HB:=Aside0.mk (Below.refl w.heap.size w)
 have H:((cmp_Compare_int.f a0_0 a1_0).bind fun t267=>((cmp_Compare_int.f a0_1 a1_1).bind fun t268=>((cmp_Or_int.f k (([t267,t268]:List Int))).bind fun t272=>(some t272))))=some r:=h
 clear h
 replace H:=Option.bind_eq_some_iff.mp H
 obtain ⟨t267,A30,H⟩:=H
 replace H:((cmp_Compare_int.f a0_1 a1_1).bind fun t268=>((cmp_Or_int.f k (([t267,t268]:List Int))).bind fun t272=>(some t272)))=some r:=H
 have A3:=Aside0.mk A30
 clear A30
 replace H:=Option.bind_eq_some_iff.mp H
 obtain ⟨t268,A40,H⟩:=H
 replace H:((cmp_Or_int.f k (([t267,t268]:List Int))).bind fun t272=>(some t272))=some r:=H
 have A4:=Aside0.mk A40
 clear A40
 obtain ⟨y269,hy269⟩:∃ y_:List Int,y_=(([t267,t268]:List Int)):=⟨_,rfl⟩
 replace H:((cmp_Or_int.f k y269).bind fun t272=>(some t272))=some r:=by first|(rw [hy269];with_reducible exact H)|(have H2_:=(Option.bind_some _ _).symm.trans H;rw [hy269];with_reducible exact H2_)|(have H2_:=(Option.bind_some _ _).symm.trans H;with_reducible exact H2_)|with_reducible exact H|(rw [hy269];exact H)|exact H
 have Ny269:=Aside0.mk hy269
 clear hy269
 replace H:=Option.bind_eq_some_iff.mp H
 obtain ⟨t272,A50,H⟩:=H
 replace H:(some t272)=some r:=H
 have A5:=Aside0.mk A50
 clear A50
 obtain rfl:=Option.some.inj H
 go_enter Try.func65,Try.ntmps65
 try go_wp2_with (first|((with_reducible refine gate_dst (N:=2) rfl ?_);refine box_event ?hg (N:=2) ?hd (cs:=#[.int .i64 a0_0,.int .i64 a0_1,.int .i64 a0_2]) (t:=84) ?hr ?_;(case hd=>rfl);(case hg=>rfl);(case hr=>first|(go_simp;done)|(go_simp;rfl));intro gb265 hg w6 hbox hb;have n0_:=Aside0.mk (below_step (by repeat (first|(with_reducible first|exact HB.out|apply below_alloc|apply pw_below_drewN|apply below_drew1)|exact HB.out)) hb);have n1_:=Aside0.mk (hbox);have n2_:=Aside0.mk ((by rw [hg];exact (below_size (by repeat (first|(with_reducible first|exact HB.out|apply below_alloc|apply pw_below_drewN|apply below_drew1)|exact HB.out))):w.heap.size≤gb265));have n3_:=Aside0.mk ((by rw [hg];exact (below_size (by repeat (first|(with_reducible first|exact HB.out|apply below_alloc|apply pw_below_drewN|apply below_drew1)|exact HB.out))):w.heap.size≤gb265));clear HB;have HB:=n0_;have BK265:=n1_;have GW265:=n2_;have GE265:=n3_;clear n0_ n1_ n2_ n3_;clear hb hbox hg)|((with_reducible refine gate_dst (N:=3) rfl ?_);refine box_event ?hg (N:=3) ?hd (cs:=#[.int .i64 a1_0,.int .i64 a1_1,.int .i64 a1_2]) (t:=84) ?hr ?_;(case hd=>rfl);(case hg=>rfl);(case hr=>first|(go_simp;done)|(go_simp;rfl));intro gb266 hg w7 hbox hb;have n0_:=Aside0.mk (blk_below (g:=gb265) (o:=.cells #[.int .i64 a0_0,.int .i64 a0_1,.int .i64 a0_2] 84 (0,0)) (by (with_reducible repeat (first|refine blk_drewN ?_ _|refine blk_drew ?_|refine blk_alloc ?_ _));exact BK265.out) hb);have n1_:=Aside0.mk (below_step (by repeat (first|(with_reducible first|exact HB.out|apply below_alloc|apply pw_below_drewN|apply below_drew1|refine below_set ?_ GE265.out)|exact HB.out)) hb);have n2_:=Aside0.mk (hbox);have n3_:=Aside0.mk ((by rw [hg];exact (below_size (by repeat (first|(with_reducible first|exact HB.out|apply below_alloc|apply pw_below_drewN|apply below_drew1|refine below_set ?_ GE265.out)|exact HB.out))):w.heap.size≤gb266));have n4_:=Aside0.mk ((by rw [hg];exact (below_size (by repeat (first|(with_reducible first|exact HB.out|apply below_alloc|apply pw_below_drewN|apply below_drew1|refine below_set ?_ GE265.out)|exact HB.out))):w.heap.size≤gb266));have n5_:=Aside0.mk ((by rw [hg];exact Nat.ne_of_lt (blk_lt (g:=gb265) (o:=.cells #[.int .i64 a0_0,.int .i64 a0_1,.int .i64 a0_2] 84 (0,0)) (by (with_reducible repeat (first|refine blk_drewN ?_ _|refine blk_drew ?_|refine blk_alloc ?_ _));exact BK265.out)):gb265≠gb266));have n6_:=Aside0.mk ((by rw [hg];exact Nat.ne_of_gt (blk_lt (g:=gb265) (o:=.cells #[.int .i64 a0_0,.int .i64 a0_1,.int .i64 a0_2] 84 (0,0)) (by (with_reducible repeat (first|refine blk_drewN ?_ _|refine blk_drew ?_|refine blk_alloc ?_ _));exact BK265.out)):gb266≠gb265));clear BK265;clear HB;have BK265:=n0_;have HB:=n1_;have BK266:=n2_;have GW266:=n3_;have GE266:=n4_;have NB265_266:=n5_;have NB266_265:=n6_;clear n0_ n1_ n2_ n3_ n4_ n5_ n6_;clear hb hbox hg))
 have n0_:=Aside0.mk (blk_drew BK265.out)
 have n1_:=Aside0.mk (blk_drew BK266.out)
 have n2_:=Aside0.mk (below_drew1 HB.out)
 clear BK265
 clear BK266
 clear HB
 have BK265:=n0_
 have BK266:=n1_
 have HB:=n2_
 clear n0_ n1_ n2_
 refine start_ (n:=13) (S:=fun w'=>w'.cell? ⟨gb265,0,none⟩=some (.int .i64 a0_0)∧w'.cell? ⟨gb265,1,none⟩=some (.int .i64 a0_1)∧w'.cell? ⟨gb265,2,none⟩=some (.int .i64 a0_2)∧w'.cell? ⟨gb266,0,none⟩=some (.int .i64 a1_0)∧w'.cell? ⟨gb266,1,none⟩=some (.int .i64 a1_1)∧w'.cell? ⟨gb266,2,none⟩=some (.int .i64 a1_2)) (ds:=[]) #[false,false,false,false,false,false,false,false,false,false,false,false,false] (by kernel_rfl) rfl rfl ⟨(blk_cell BK265.out 0).trans rfl,(blk_cell BK265.out 1).trans rfl,(blk_cell BK265.out 2).trans rfl,(blk_cell BK266.out 0).trans rfl,(blk_cell BK266.out 1).trans rfl,(blk_cell BK266.out 2).trans rfl⟩ (fun hHeld=>?_);refine with_tabW impl_FontOk_c3.tab1 impl_FontOk_c3.bits1 (fun HT_ HW_=>?_)
 generalize w7.drew=w8 at BK265 BK266 HB hHeld ⊢
 refine pure_ (i:=0) (N:=some 5) (v:=?_) (a':=?_) #[true,false,false,false,false,false,false,false,false,false,false,false,false] rfl rfl (any_of HT_.out (by kernel_rfl)) (fun _ _ _ h=>h) (Or.inl ⟨by rfl,?_⟩) ?_ ?_
 rotate_left
 ·intro w'
  go_simp
  with_reducible rfl
 rotate_left
 ·simp only [Act.put,List.setIfInBounds_toArray,List.set_cons_zero,List.set_cons_succ,i64_w,i32_w]
  rfl
 refine pure_ (i:=2) (N:=some 7) (v:=?_) (a':=?_) #[true,false,true,false,false,false,false,false,false,false,false,false,false] rfl rfl (any_of HT_.out (by kernel_rfl)) (fun _ _ _ h=>h) (Or.inl ⟨by rfl,?_⟩) ?_ ?_
 rotate_left
 ·intro w'
  go_simp
  with_reducible rfl
 rotate_left
 ·simp only [Act.put,List.setIfInBounds_toArray,List.set_cons_zero,List.set_cons_succ,i64_w,i32_w]
  rfl
 refine pure_ (i:=5) (N:=some 10) (v:=?_) (a':=?_) #[true,false,true,false,false,true,false,false,false,false,false,false,false] rfl rfl (any_of HT_.out (by kernel_rfl)) (fun _ _ _ h=>h) (Or.inl ⟨by rfl,?_⟩) ?_ ?_
 rotate_left
 ·intro w'
  go_simp
  with_reducible rfl
 rotate_left
 ·simp only [Act.put,List.setIfInBounds_toArray,List.set_cons_zero,List.set_cons_succ,i64_w,i32_w]
  rfl
 refine pure_ (i:=7) (N:=some 12) (v:=?_) (a':=?_) #[true,false,true,false,false,true,false,true,false,false,false,false,false] rfl rfl (any_of HT_.out (by kernel_rfl)) (fun _ _ _ h=>h) (Or.inl ⟨by rfl,?_⟩) ?_ ?_
 rotate_left
 ·intro w'
  go_simp
  with_reducible rfl
 rotate_left
 ·simp only [Act.put,List.setIfInBounds_toArray,List.set_cons_zero,List.set_cons_succ,i64_w,i32_w]
  rfl
 refine take_ (i:=1) (N:=some 6) (v:=?_) (a':=?_) #[true,true,true,false,false,true,false,true,false,false,false,false,false] rfl rfl (take_ofW HT_.out HW_.out (by kernel_rfl)) (fun _ _ _ h=>h) (Or.inl ⟨by rfl,?_⟩) hHeld ?_ ?_
 rotate_left
 ·rintro w' ⟨s0,s1,s2,s3,s4,s5⟩
  go_simp
  with_reducible rfl
 rotate_left
 ·simp only [Act.put,List.setIfInBounds_toArray,List.set_cons_zero,List.set_cons_succ,i64_w,i32_w]
  rfl
 refine take_ (i:=3) (N:=some 8) (v:=?_) (a':=?_) #[true,true,true,true,false,true,false,true,false,false,false,false,false] rfl rfl (take_ofW HT_.out HW_.out (by kernel_rfl)) (fun _ _ _ h=>h) (Or.inl ⟨by rfl,?_⟩) hHeld ?_ ?_
 rotate_left
 ·rintro w' ⟨s0,s1,s2,s3,s4,s5⟩
  go_simp
  with_reducible rfl
 rotate_left
 ·simp only [Act.put,List.setIfInBounds_toArray,List.set_cons_zero,List.set_cons_succ,i64_w,i32_w]
  rfl
 refine take_ (i:=6) (N:=some 11) (v:=?_) (a':=?_) #[true,true,true,true,false,true,true,true,false,false,false,false,false] rfl rfl (take_ofW HT_.out HW_.out (by kernel_rfl)) (fun _ _ _ h=>h) (Or.inl ⟨by rfl,?_⟩) hHeld ?_ ?_
 rotate_left
 ·rintro w' ⟨s0,s1,s2,s3,s4,s5⟩
  go_simp
  with_reducible rfl
 rotate_left
 ·simp only [Act.put,List.setIfInBounds_toArray,List.set_cons_zero,List.set_cons_succ,i64_w,i32_w]
  rfl
 refine take_ (i:=8) (N:=some 13) (v:=?_) (a':=?_) #[true,true,true,true,false,true,true,true,true,false,false,false,false] rfl rfl (take_ofW HT_.out HW_.out (by kernel_rfl)) (fun _ _ _ h=>h) (Or.inl ⟨by rfl,?_⟩) hHeld ?_ ?_
 rotate_left
 ·rintro w' ⟨s0,s1,s2,s3,s4,s5⟩
  go_simp
  with_reducible rfl
 rotate_left
 ·simp only [Act.put,List.setIfInBounds_toArray,List.set_cons_zero,List.set_cons_succ,i64_w,i32_w]
  rfl
 refine one_ (i:=4) (N:=some 9) #[true,true,true,true,true,true,true,true,true,false,false,false,false] rfl rfl (one_of HT_.out (by kernel_rfl)) (by decide) (fun K hK=>?_)
 refine goes_ Try.func60 (by kernel_rfl) rfl #[.int .i64 a0_0,.int .i64 a1_0] (by rfl) rfl rfl (by (try simp only [List.map_toArray,List.map_cons,List.map_nil]);first|done|rfl|(simp only [List.length_drop,List.length_take];rfl)) ?_
 with_reducible refine (cmp_Compare_int.calls a0_0 a1_0 t267 _ A3.out).mono ?_
 rintro e w' ⟨rfl,⟨nd,rfl⟩⟩
 refine ⟨_,rfl,?_⟩
 refine hK.out _ _ ⟨(blk_cell BK265.out 0).trans rfl,(blk_cell BK265.out 1).trans rfl,(blk_cell BK265.out 2).trans rfl,(blk_cell BK266.out 0).trans rfl,(blk_cell BK266.out 1).trans rfl,(blk_cell BK266.out 2).trans rfl⟩ (fun hHeld=>?_)
 clear hK K
 refine norm_ (a':=?_) ?_ ?_
 rotate_left
 ·show Act.put _ (some 9) _=_
  simp only [Act.put,List.setIfInBounds_toArray,List.set_cons_zero,List.set_cons_succ,i64_w,i32_w]
  rfl
 refine one_ (i:=9) (N:=some 14) #[true,true,true,true,true,true,true,true,true,true,false,false,false] rfl rfl (one_of HT_.out (by kernel_rfl)) (by decide) (fun K hK=>?_)
 refine goes_ Try.func60 (by kernel_rfl) rfl #[.int .i64 a0_1,.int .i64 a1_1] (by rfl) rfl rfl (by (try simp only [List.map_toArray,List.map_cons,List.map_nil]);first|done|rfl|(simp only [List.length_drop,List.length_take];rfl)) ?_
 with_reducible refine (cmp_Compare_int.calls a0_1 a1_1 t268 _ A4.out).mono ?_
 rintro e w' ⟨rfl,⟨nd,rfl⟩⟩
 refine ⟨_,rfl,?_⟩
 refine hK.out _ _ ⟨(blk_cell BK265.out 0).trans rfl,(blk_cell BK265.out 1).trans rfl,(blk_cell BK265.out 2).trans rfl,(blk_cell BK266.out 0).trans rfl,(blk_cell BK266.out 1).trans rfl,(blk_cell BK266.out 2).trans rfl⟩ (fun hHeld=>?_)
 clear hK K
 refine norm_ (a':=?_) ?_ ?_
 rotate_left
 ·show Act.put _ (some 14) _=_
  simp only [Act.put,List.setIfInBounds_toArray,List.set_cons_zero,List.set_cons_succ,i64_w,i32_w]
  rfl
 refine one_ (i:=10) (N:=some 15) #[true,true,true,true,true,true,true,true,true,true,true,false,false] rfl rfl (one_of HT_.out (by kernel_rfl)) (by decide) (fun K hK=>?_)
 refine Kd.R_lit_step (Kd.int .i64) _ 3 ?hg (N:=15) ?hd (xs:=([t267,t268]:List Int)) (inner:=[.int .i64 t267,.int .i64 t268]) (ok:=fun _=>True) (okp:=fun _=>True) ?hr ?hp (fun _ hk=>hk) trivial (Below.refl _ _) (Nat.le_refl _) (by simp) ?_;(case hd=>rfl);(case hg=>rfl);(case hr=>first|(go_simp;done)|(go_simp;rfl));(case hp=>exact (Reps.one (show Kd.M (Kd.int .i64) _ _ _ t267 [.int .i64 t267] from rfl) (Reps.one (show Kd.M (Kd.int .i64) _ _ _ t268 [.int .i64 t268] from rfl) (Reps.none _ _))))
 intro v270 w9 ho10 hb hg_ hnew_
 clear hg_ hnew_
 (first|rw [← Ny269.out] at ho10|(simp only [Int.reduceToNat] at ho10;rw [← Ny269.out] at ho10))
 have n0_:=Aside0.mk (Kd.R_lower ho10 (below_size (by repeat (first|(with_reducible first|exact HB.out|apply below_alloc|apply pw_below_drewN|apply below_drew1|refine below_set ?_ GE265.out|refine below_set ?_ GE266.out)|exact HB.out))))
 have n1_:=Aside0.mk (blk_below (g:=gb265) (o:=.cells #[.int .i64 a0_0,.int .i64 a0_1,.int .i64 a0_2] 84 (0,0)) (by (with_reducible repeat (first|refine blk_drewN ?_ _|refine blk_drew ?_|refine blk_alloc ?_ _));exact BK265.out) hb)
 have n2_:=Aside0.mk (blk_below (g:=gb266) (o:=.cells #[.int .i64 a1_0,.int .i64 a1_1,.int .i64 a1_2] 84 (0,0)) (by (with_reducible repeat (first|refine blk_drewN ?_ _|refine blk_drew ?_|refine blk_alloc ?_ _));exact BK266.out) hb)
 have n3_:=Aside0.mk (below_step (by repeat (first|(with_reducible first|exact HB.out|apply below_alloc|apply pw_below_drewN|apply below_drew1|refine below_set ?_ GE265.out|refine below_set ?_ GE266.out)|exact HB.out)) hb)
 clear BK265
 clear BK266
 clear HB
 have HO271:=n0_
 have BK265:=n1_
 have BK266:=n2_
 have HB:=n3_
 clear n0_ n1_ n2_ n3_
 clear hb ho10
 obtain ⟨Ao11,co11,eo11⟩:=Kd.R_slice HO271.out
 (first|subst eo11|(injection eo11 with f1_ f2_ f3_;have f4_:=f1_.symm;have f5_:=f3_.symm;clear f1_ f2_ f3_;subst f4_;subst f5_))
 refine hK.out _ _ ⟨(blk_cell BK265.out 0).trans rfl,(blk_cell BK265.out 1).trans rfl,(blk_cell BK265.out 2).trans rfl,(blk_cell BK266.out 0).trans rfl,(blk_cell BK266.out 1).trans rfl,(blk_cell BK266.out 2).trans rfl⟩ (fun hHeld=>?_)
 clear hK K
 refine norm_ (a':=?_) ?_ ?_
 rotate_left
 ·show Act.put _ (some 15) _=_
  simp only [Act.put,List.setIfInBounds_toArray,List.set_cons_zero,List.set_cons_succ,i64_w,i32_w]
  rfl
 refine one_ (i:=11) (N:=some 16) #[true,true,true,true,true,true,true,true,true,true,true,true,false] rfl rfl (one_of HT_.out (by kernel_rfl)) (by decide) (fun K hK=>?_)
 refine goes_ Try.func63 (by kernel_rfl) rfl #[.slice Ao11 y269.length co11] (by rfl) rfl rfl (by (try simp only [List.map_toArray,List.map_cons,List.map_nil]);first|done|rfl|(simp only [List.length_drop,List.length_take];rfl)) ?_
 with_reducible refine (cmp_Or_int.calls k _ _ y269 t272 _ ?side1 ?side2 A5.out).mono ?_
 (case side1=>repeat (first|exact (Kd.R_reads' HO271.out).2.2|(with_reducible refine Kd.C_alloc ?_ _)|(with_reducible refine Kd.C_drewN ?_ _)|(with_reducible refine Kd.C_drew ?_)))
 (case side2=>exact (Kd.R_reads' HO271.out).2.1)
 rintro e w' ⟨rfl,⟨nd,rfl⟩⟩
 refine ⟨_,rfl,?_⟩
 refine hK.out _ _ ⟨(blk_cell BK265.out 0).trans rfl,(blk_cell BK265.out 1).trans rfl,(blk_cell BK265.out 2).trans rfl,(blk_cell BK266.out 0).trans rfl,(blk_cell BK266.out 1).trans rfl,(blk_cell BK266.out 2).trans rfl⟩ (fun hHeld=>?_)
 clear hK K
 refine norm_ (a':=?_) ?_ ?_
 rotate_left
 ·show Act.put _ (some 16) _=_
  simp only [Act.put,List.setIfInBounds_toArray,List.set_cons_zero,List.set_cons_succ,i64_w,i32_w]
  rfl
 refine pure_ (i:=12) (N:=some 4) (v:=?_) (a':=?_) #[true,true,true,true,true,true,true,true,true,true,true,true,true] rfl rfl (any_of HT_.out (by kernel_rfl)) (fun _ _ _ h=>h) (Or.inl ⟨by rfl,?_⟩) ?_ ?_
 rotate_left
 ·intro w'
  go_simp
  with_reducible rfl
 rotate_left
 ·simp only [Act.put,List.setIfInBounds_toArray,List.set_cons_zero,List.set_cons_succ,i64_w,i32_w]
  rfl
 refine done_ (done_of HT_.out (by kernel_rfl)) ?_
 try go_wp2
 go_ret
 exact ⟨by first|rfl|(simp [errW_none,errW_some]<;>rfl)|(simp [*,errW_none,errW_some]<;>rfl),by repeat (first|(with_reducible first|exact HB.out|apply below_alloc|apply pw_below_drewN|apply below_drew1|refine below_set ?_ GE265.out|refine below_set ?_ GE266.out)|exact HB.out)⟩
end Go.Proofs.Ytiinihponcojkaa.QFnExactAdvance
