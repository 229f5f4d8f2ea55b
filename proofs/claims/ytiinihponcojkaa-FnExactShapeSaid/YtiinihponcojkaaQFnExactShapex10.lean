/- Written by a program (wip/tools/own_print.py) out of the walk that the kit's printer made; turned where it fell. -/
-- PRINTED by print.py (a twelfth state) out of the translation. Not trusted: Lean checks it.
import Derived.Test.YtiinihponcojkaaQFnExactShapex0
import Derived.Test.YtiinihponcojkaaQFnExactShapex9
namespace Go.Proofs.Ytiinihponcojkaa.QFnExactShape
open Go.RowKit Go.Proofs.YtiinihponcojkaaV.PrintWords Go.Proofs.YtiinihponcojkaaV.PrintLast Go.Proofs.YtiinihponcojkaaV.PrintMore
attribute [local go_sem] max2_int min2_int max_two min_two max_three min_three max_four min_four   -- for this text's walks alone
set_option linter.unusedVariables false
set_option linter.unusedSimpArgs false
/-! ### laws_eqGlyphS: function 34 -/
def laws_eqGlyphS.l0:Nat→List (S79)→List (S79)→Int→Option (Bool)
 |0,_,_,_=>none
 |k+1,x0,x1,x5=>if x5<(x0.length:Int) then (if 0≤x5 then (if x5<(x1.length:Int) then ((laws_eqGlyph.f ((rd_T79 x0 x5).f0) ((rd_T79 x0 x5).f1) ((rd_T79 x1 x5).f0) ((rd_T79 x1 x5).f1)).bind fun t258=>(if t258=true then (laws_eqGlyphS.l0 k x0 x1 (wrap64 (x5+1))) else (none))) else (none)) else (none)) else (some true)
def laws_eqGlyphS.f (k:Nat) (l0:List (S79)) (l1:List (S79)):Option (Bool):=if (l0.length:Int)=(l1.length:Int) then (laws_eqGlyphS.l0 k l0 l1 0) else (none)
theorem laws_eqGlyphS.mono_l:∀ k,(∀ y0 y1 y2,LeO (laws_eqGlyphS.l0 k y0 y1 y2) (laws_eqGlyphS.l0 (k+1) y0 y1 y2))
 |0=>fun _ _ _ r h=>by simp [laws_eqGlyphS.l0] at h
 |k+1=>by
  have ih0:=laws_eqGlyphS.mono_l k
  ·intro y0 y1 y2
   unfold laws_eqGlyphS.l0
   repeat' first
   |(with_reducible exact ih0 _ _ _)
   |(with_reducible exact LeO.refl _)
   |(with_reducible exact LeO.none _)
   |(with_reducible refine LeO.ite ?_ ?_)
   |(with_reducible refine LeO.bind ?_ (fun _=>?_))
   |exact ih0 _ _ _
   |exact LeO.none _
   |refine LeO.ite ?_ ?_
   |refine LeO.bind ?_ (fun _=>?_)
theorem laws_eqGlyphS.mono:∀ a0 a1 k,LeO (laws_eqGlyphS.f k a0 a1) (laws_eqGlyphS.f (k+1) a0 a1):=by
 intro a0 a1 k
 have ih0:=laws_eqGlyphS.mono_l k
 unfold laws_eqGlyphS.f
 repeat' first
   |(with_reducible exact ih0 _ _ _)
   |(with_reducible exact LeO.refl _)
   |(with_reducible exact LeO.none _)
   |(with_reducible refine LeO.ite ?_ ?_)
   |(with_reducible refine LeO.bind ?_ (fun _=>?_))
   |exact ih0 _ _ _
   |exact LeO.none _
   |refine LeO.ite ?_ ?_
   |refine LeO.bind ?_ (fun _=>?_)
def laws_eqGlyphS.T6:Bool×List (List Nat×List Nat):=(true,[([],[]),([],[]),([0,1],[0,1]),([2],[2]),([],[]),([],[]),([4,5],[4,5]),([6],[6]),([3,7],[3,7]),([8],[8])])
def laws_eqGlyphS.B6:List Nat:=[0,0,3,7,0,0,48,112,255,511]
theorem laws_eqGlyphS.tab6:rtab .any (opsOf Try.f34 6)=laws_eqGlyphS.T6:=by kernel_rfl
theorem laws_eqGlyphS.bits6:waitsOk laws_eqGlyphS.T6.2 laws_eqGlyphS.B6=true:=by kernel_rfl
set_option maxHeartbeats 8000000 in
set_option maxRecDepth 100000 in
theorem laws_eqGlyphS.calls (k:Nat) (A0:Option Addr) (c0:Nat) (l0:List (S79)) (A1:Option Addr) (c1:Nat) (l1:List (S79)) (r:Bool) (w:World) (hr0:Kd.C k79 w A0 l0.length l0) (hc0:l0.length≤c0) (hr1:Kd.C k79 w A1 l1.length l1) (hc1:l1.length≤c1) (h:laws_eqGlyphS.f k l0 l1=some r) :
  Calls Try.prog 34 #[.slice A0 l0.length c0,.slice A1 l1.length c1] w fun e w'=>e=.returned (.bool r)∧Below w.heap.size w w':=by
 have hu79:=Try.underlying79
 have HR0:=Aside0.mk hr0
 have HC0:=Aside0.mk hc0
 clear hr0 hc0
 have HR1:=Aside0.mk hr1
 have HC1:=Aside0.mk hc1
 clear hr1 hc1
 have HB:=Aside0.mk (Below.refl w.heap.size w)
 have H:(if (l0.length:Int)=(l1.length:Int) then (laws_eqGlyphS.l0 k l0 l1 0) else (none))=some r:=h
 clear h
 by_cases c3:(l0.length:Int)=(l1.length:Int)
 ·rw [if_pos c3] at H
  have c3b0:((l0.length:Int)==(l1.length:Int))=true:=beq_iff_eq.mpr c3
  have c3b1:((l0.length:Int) != (l1.length:Int))=false:=bne_eq_false_iff_eq.mpr c3
  have c3b2:(l0.length==l1.length)=true:=by first|simpa using c3|(simp at c3 ⊢;omega)
  clear c3
  have H':=Aside0.mk H
  clear H
  go_enter Try.func34,Try.ntmps34
  go_wp2
  go_loopg [5] k (fun kq v5 w'=>∃ (x5_1:Int),v5=.int .i64 x5_1∧Aside0 (laws_eqGlyphS.l0 kq l0 l1 x5_1=some r)∧Aside0 (kq≤k)∧Aside0 (Below w.heap.size w w'))
  case atStart=>exact ⟨(0),(by first|rfl|(simp;done)|(simp [*];done)),H',⟨Nat.le_refl _⟩,⟨by repeat (first|(with_reducible first|exact HB.out|apply below_alloc|apply pw_below_drewN|apply below_drew1)|exact HB.out)⟩⟩
  case round=>
   clear H'
   try clear c1
   try clear p2
   try clear c3
   try clear c3b0
   try clear c3b1
   try clear c3b2
   obtain ⟨x5_1,rfl,HA,HK1,HB⟩:=hrel
   cases gk with
   |zero=>exact absurd HA.out (by simp [laws_eqGlyphS.l0])
   |succ k1=>
    have H:=HA.out
    clear HA
    simp only [laws_eqGlyphS.l0] at H
    by_cases c4:x5_1<(l0.length:Int)
    ·rw [if_pos c4] at H
     have c4b0:decide (x5_1<(l0.length:Int))=true:=decide_eq_true c4
     clear c4
     by_cases c5:0≤x5_1
     ·rw [if_pos c5] at H
      have c5b0:decide (0≤x5_1)=true:=decide_eq_true c5
      clear c5
      by_cases c6:x5_1<(l1.length:Int)
      ·rw [if_pos c6] at H
       have c6b0:decide (x5_1<(l1.length:Int))=true:=decide_eq_true c6
       clear c6
       replace H:=Option.bind_eq_some_iff.mp H
       obtain ⟨t258,A70,H⟩:=H
       replace H:(if t258=true then (laws_eqGlyphS.l0 k1 l0 l1 (wrap64 (x5_1+1))) else (none))=some r:=H
       have A7:=Aside0.mk A70
       clear A70
       by_cases c8:t258=true
       ·subst c8
        have H1:(laws_eqGlyphS.l0 k1 l0 l1 (wrap64 (x5_1+1)))=some r:=by rw [if_pos rfl] at H;exact H
        clear H
        have H:=H1
        clear H1
        have H':=Aside0.mk H
        clear H
        try go_wp2
        have n0_:=Aside0.mk (below_drew1 HB.out)
        clear HB
        have HB:=n0_
        clear n0_
        have p256:0≤(x5_1:Int):=of_decide_eq_true (by first|(with_reducible assumption)|assumption)
        have q256:x5_1<(l0.length:Int):=of_decide_eq_true (by first|(with_reducible assumption)|assumption)
        obtain ⟨ad256,e256,hx256_0,hx256_1⟩:=at_T79 HR0.out x5_1 p256 q256
        have hw256_1:=hx256_1
        have hw256_0:=hx256_0
        cases e256
        replace hx256_0:=(HB.out.cell (World.block_lt_of_cell? w _ hx256_0)).trans hx256_0
        replace hx256_1:=(HB.out.cell (World.block_lt_of_cell? w _ hx256_1)).trans hx256_1
        replace p256:=eq_true p256
        replace q256:=eq_true q256
        have p257:0≤(x5_1:Int):=of_decide_eq_true (by first|(with_reducible assumption)|assumption)
        have q257:x5_1<(l1.length:Int):=of_decide_eq_true (by first|(with_reducible assumption)|assumption)
        obtain ⟨ad257,e257,hx257_0,hx257_1⟩:=at_T79 HR1.out x5_1 p257 q257
        have hw257_1:=hx257_1
        have hw257_0:=hx257_0
        cases e257
        replace hx257_0:=(HB.out.cell (World.block_lt_of_cell? w _ hx257_0)).trans hx257_0
        replace hx257_1:=(HB.out.cell (World.block_lt_of_cell? w _ hx257_1)).trans hx257_1
        replace p257:=eq_true p257
        replace q257:=eq_true q257
        refine start_ (n:=10) (S:=fun w'=>w'.cell? (ad256.add ((x5_1).toNat*2))=some (.int .i64 ((rd_T79 l0 x5_1).f0))∧w'.cell? ⟨(ad256.add ((x5_1).toNat*2)).block,(ad256.add ((x5_1).toNat*2)).off+1,none⟩=some (.int .i64 ((rd_T79 l0 x5_1).f1))∧w'.cell? (ad257.add ((x5_1).toNat*2))=some (.int .i64 ((rd_T79 l1 x5_1).f0))∧w'.cell? ⟨(ad257.add ((x5_1).toNat*2)).block,(ad257.add ((x5_1).toNat*2)).off+1,none⟩=some (.int .i64 ((rd_T79 l1 x5_1).f1))) (ds:=[]) #[false,false,false,false,false,false,false,false,false,false] (by kernel_rfl) rfl rfl ⟨((HB.out.cell (World.block_lt_of_cell? w _ hw256_0)).trans hw256_0),((HB.out.cell (World.block_lt_of_cell? w _ hw256_1)).trans hw256_1),((HB.out.cell (World.block_lt_of_cell? w _ hw257_0)).trans hw257_0),((HB.out.cell (World.block_lt_of_cell? w _ hw257_1)).trans hw257_1)⟩ (fun hHeld=>?_);refine with_tabW laws_eqGlyphS.tab6 laws_eqGlyphS.bits6 (fun HT_ HW_=>?_)
        generalize wr.drew=w9 at HB hx256_0 hx256_1 hx257_0 hx257_1 hHeld ⊢
        refine pure_ (i:=0) (N:=some 17) (v:=?_) (a':=?_) #[true,false,false,false,false,false,false,false,false,false] rfl rfl (any_of HT_.out (by kernel_rfl)) (fun _ _ _ h=>h) (Or.inl ⟨by rfl,?_⟩) ?_ ?_
        rotate_left
        ·intro w'
         go_simp
         with_reducible rfl
        rotate_left
        ·simp only [Act.put,List.setIfInBounds_toArray,List.set_cons_zero,List.set_cons_succ,i64_w,i32_w]
         rfl
        refine pure_ (i:=1) (N:=some 18) (v:=?_) (a':=?_) #[true,true,false,false,false,false,false,false,false,false] rfl rfl (any_of HT_.out (by kernel_rfl)) (fun _ _ _ h=>h) (Or.inl ⟨by rfl,?_⟩) ?_ ?_
        rotate_left
        ·intro w'
         go_simp
         with_reducible rfl
        rotate_left
        ·simp only [Act.put,List.setIfInBounds_toArray,List.set_cons_zero,List.set_cons_succ,i64_w,i32_w]
         rfl
        refine pure_ (i:=2) (N:=some 19) (v:=?_) (a':=?_) #[true,true,true,false,false,false,false,false,false,false] rfl rfl (any_of HT_.out (by kernel_rfl)) (fun _ _ _ h=>h) (Or.inl ⟨by rfl,?_⟩) ?_ ?_
        rotate_left
        ·intro w'
         go_simp
         with_reducible rfl
        rotate_left
        ·simp only [Act.put,List.setIfInBounds_toArray,List.set_cons_zero,List.set_cons_succ,i64_w,i32_w]
         rfl
        refine pure_ (i:=4) (N:=some 21) (v:=?_) (a':=?_) #[true,true,true,false,true,false,false,false,false,false] rfl rfl (any_of HT_.out (by kernel_rfl)) (fun _ _ _ h=>h) (Or.inl ⟨by rfl,?_⟩) ?_ ?_
        rotate_left
        ·intro w'
         go_simp
         with_reducible rfl
        rotate_left
        ·simp only [Act.put,List.setIfInBounds_toArray,List.set_cons_zero,List.set_cons_succ,i64_w,i32_w]
         rfl
        refine pure_ (i:=5) (N:=some 22) (v:=?_) (a':=?_) #[true,true,true,false,true,true,false,false,false,false] rfl rfl (any_of HT_.out (by kernel_rfl)) (fun _ _ _ h=>h) (Or.inl ⟨by rfl,?_⟩) ?_ ?_
        rotate_left
        ·intro w'
         go_simp
         with_reducible rfl
        rotate_left
        ·simp only [Act.put,List.setIfInBounds_toArray,List.set_cons_zero,List.set_cons_succ,i64_w,i32_w]
         rfl
        refine pure_ (i:=6) (N:=some 23) (v:=?_) (a':=?_) #[true,true,true,false,true,true,true,false,false,false] rfl rfl (any_of HT_.out (by kernel_rfl)) (fun _ _ _ h=>h) (Or.inl ⟨by rfl,?_⟩) ?_ ?_
        rotate_left
        ·intro w'
         go_simp
         with_reducible rfl
        rotate_left
        ·simp only [Act.put,List.setIfInBounds_toArray,List.set_cons_zero,List.set_cons_succ,i64_w,i32_w]
         rfl
        refine take_ (i:=3) (N:=some 20) (v:=?_) (a':=?_) #[true,true,true,true,true,true,true,false,false,false] rfl rfl (take_ofW HT_.out HW_.out (by kernel_rfl)) (fun _ _ _ h=>h) (Or.inl ⟨by rfl,?_⟩) hHeld ?_ ?_
        rotate_left
        ·rintro w' ⟨s0,s1,s2,s3⟩
         go_simp
         with_reducible rfl
        rotate_left
        ·simp only [Act.put,List.setIfInBounds_toArray,List.set_cons_zero,List.set_cons_succ,i64_w,i32_w]
         rfl
        refine take_ (i:=7) (N:=some 24) (v:=?_) (a':=?_) #[true,true,true,true,true,true,true,true,false,false] rfl rfl (take_ofW HT_.out HW_.out (by kernel_rfl)) (fun _ _ _ h=>h) (Or.inl ⟨by rfl,?_⟩) hHeld ?_ ?_
        rotate_left
        ·rintro w' ⟨s0,s1,s2,s3⟩
         go_simp
         with_reducible rfl
        rotate_left
        ·simp only [Act.put,List.setIfInBounds_toArray,List.set_cons_zero,List.set_cons_succ,i64_w,i32_w]
         rfl
        refine one_ (i:=8) (N:=some 25) #[true,true,true,true,true,true,true,true,true,false] rfl rfl (one_of HT_.out (by kernel_rfl)) (by decide) (fun K hK=>?_)
        refine goes_ Try.func67 (by kernel_rfl) rfl #[.agg #[.int .i64 ((rd_T79 l0 x5_1).f0),.int .i64 ((rd_T79 l0 x5_1).f1)],.agg #[.int .i64 ((rd_T79 l1 x5_1).f0),.int .i64 ((rd_T79 l1 x5_1).f1)]] (by rfl) rfl rfl (by (try simp only [List.map_toArray,List.map_cons,List.map_nil]);first|done|rfl|(simp only [List.length_drop,List.length_take];rfl)) ?_
        with_reducible refine (laws_eqGlyph.calls ((rd_T79 l0 x5_1).f0) ((rd_T79 l0 x5_1).f1) ((rd_T79 l1 x5_1).f0) ((rd_T79 l1 x5_1).f1) true _ A7.out).mono ?_
        rintro e w10 ⟨rfl,hb⟩
        refine ⟨_,rfl,?_⟩
        have n0_:=Aside0.mk (below_step (by repeat (first|(with_reducible first|exact HB.out|apply below_alloc|apply pw_below_drewN|apply below_drew1)|exact HB.out)) hb)
        clear HB
        have HB:=n0_
        clear n0_
        (try clear hb)
        (try clear hb2)
        (try clear hk)
        (try clear hi)
        refine hK.out _ _ ⟨((HB.out.cell (World.block_lt_of_cell? w _ hw256_0)).trans hw256_0),((HB.out.cell (World.block_lt_of_cell? w _ hw256_1)).trans hw256_1),((HB.out.cell (World.block_lt_of_cell? w _ hw257_0)).trans hw257_0),((HB.out.cell (World.block_lt_of_cell? w _ hw257_1)).trans hw257_1)⟩ (fun hHeld=>?_)
        clear hK K
        refine norm_ (a':=?_) ?_ ?_
        rotate_left
        ·show Act.put _ (some 25) _=_
         simp only [Act.put,List.setIfInBounds_toArray,List.set_cons_zero,List.set_cons_succ,i64_w,i32_w]
         rfl
        refine pure_ (i:=9) (N:=some 26) (v:=?_) (a':=?_) #[true,true,true,true,true,true,true,true,true,true] rfl rfl (any_of HT_.out (by kernel_rfl)) (fun _ _ _ h=>h) (Or.inl ⟨by rfl,?_⟩) ?_ ?_
        rotate_left
        ·intro w'
         go_simp
         with_reducible rfl
        rotate_left
        ·simp only [Act.put,List.setIfInBounds_toArray,List.set_cons_zero,List.set_cons_succ,i64_w,i32_w]
         rfl
        refine done_ (done_of HT_.out (by kernel_rfl)) ?_
        try go_wp2
        go_roundg k1
        case measure=>have:=HK1.out;omega
        case rel=>exact ⟨(wrap64 (x5_1+1)),(by first|rfl|(simp;done)|(simp [*];done)),H',⟨by have:=HK1.out;omega⟩,⟨by repeat (first|(with_reducible first|exact HB.out|apply below_alloc|apply pw_below_drewN|apply below_drew1)|exact HB.out)⟩⟩
       ·replace c8:=Bool.eq_false_iff.mpr c8
        subst c8
        exact absurd H (by simp)
      ·rw [if_neg c6] at H
       exact absurd H (by simp)
     ·rw [if_neg c5] at H
      exact absurd H (by simp)
    ·rw [if_neg c4] at H
     have c4b0:decide (x5_1<(l0.length:Int))=false:=decide_eq_false c4
     clear c4
     obtain rfl:=Option.some.inj H
     go_wp2
     go_ret
     exact ⟨by first|rfl|(simp [errW_none,errW_some]<;>rfl)|(simp [*,errW_none,errW_some]<;>rfl),by repeat (first|(with_reducible first|exact HB.out|apply below_alloc|apply pw_below_drewN|apply below_drew1)|exact HB.out)⟩
 ·rw [if_neg c3] at H
  exact absurd H (by simp)
/-! ### laws_eqKern: function 68 -/
def laws_eqKern.f (a0_0:Int) (a0_1:Int) (a0_2:Int) (a1_0:Int) (a1_1:Int) (a1_2:Int):Option (Bool):=if a0_0=a1_0 then (if a0_1=a1_1 then (if a0_2=a1_2 then (some true) else (none)) else (none)) else (none)
set_option maxHeartbeats 8000000 in
set_option maxRecDepth 100000 in
theorem laws_eqKern.calls (a0_0:Int) (a0_1:Int) (a0_2:Int) (a1_0:Int) (a1_1:Int) (a1_2:Int) (r:Bool) (w:World) (h:laws_eqKern.f a0_0 a0_1 a0_2 a1_0 a1_1 a1_2=some r) :
  Calls Try.prog 68 #[.agg #[.int .i64 a0_0,.int .i64 a0_1,.int .i64 a0_2],.agg #[.int .i64 a1_0,.int .i64 a1_1,.int .i64 a1_2]] w fun e w'=>e=.returned (.bool r)∧Below w.heap.size w w':=by
 have hu81:=Try.underlying81
 have HB:=Aside0.mk (Below.refl w.heap.size w)
 have H:(if a0_0=a1_0 then (if a0_1=a1_1 then (if a0_2=a1_2 then (some true) else (none)) else (none)) else (none))=some r:=h
 clear h
 by_cases c3:a0_0=a1_0
 ·rw [if_pos c3] at H
  have c3b0:(a0_0==a1_0)=true:=beq_iff_eq.mpr c3
  have c3b1:(a0_0 != a1_0)=false:=bne_eq_false_iff_eq.mpr c3
  clear c3
  by_cases c4:a0_1=a1_1
  ·rw [if_pos c4] at H
   have c4b0:(a0_1==a1_1)=true:=beq_iff_eq.mpr c4
   have c4b1:(a0_1 != a1_1)=false:=bne_eq_false_iff_eq.mpr c4
   clear c4
   by_cases c5:a0_2=a1_2
   ·rw [if_pos c5] at H
    have c5b0:(a0_2==a1_2)=true:=beq_iff_eq.mpr c5
    have c5b1:(a0_2 != a1_2)=false:=bne_eq_false_iff_eq.mpr c5
    clear c5
    obtain rfl:=Option.some.inj H
    go_enter Try.func68,Try.ntmps68
    go_wp2_with (first|((with_reducible refine gate_dst (N:=2) rfl ?_);refine box_event ?hg (N:=2) ?hd (cs:=#[.int .i64 a0_0,.int .i64 a0_1,.int .i64 a0_2]) (t:=81) ?hr ?_;(case hd=>rfl);(case hg=>rfl);(case hr=>first|(go_simp;done)|(go_simp;rfl));intro gb259 hg w6 hbox hb;have n0_:=Aside0.mk (below_step (by repeat (first|(with_reducible first|exact HB.out|apply below_alloc|apply pw_below_drewN|apply below_drew1)|exact HB.out)) hb);have n1_:=Aside0.mk (hbox);have n2_:=Aside0.mk ((by rw [hg];exact (below_size (by repeat (first|(with_reducible first|exact HB.out|apply below_alloc|apply pw_below_drewN|apply below_drew1)|exact HB.out))):w.heap.size≤gb259));have n3_:=Aside0.mk ((by rw [hg];exact (below_size (by repeat (first|(with_reducible first|exact HB.out|apply below_alloc|apply pw_below_drewN|apply below_drew1)|exact HB.out))):w.heap.size≤gb259));clear HB;have HB:=n0_;have BK259:=n1_;have GW259:=n2_;have GE259:=n3_;clear n0_ n1_ n2_ n3_;clear hb hbox hg)|((with_reducible refine gate_dst (N:=3) rfl ?_);refine box_event ?hg (N:=3) ?hd (cs:=#[.int .i64 a1_0,.int .i64 a1_1,.int .i64 a1_2]) (t:=81) ?hr ?_;(case hd=>rfl);(case hg=>rfl);(case hr=>first|(go_simp;done)|(go_simp;rfl));intro gb260 hg w7 hbox hb;have n0_:=Aside0.mk (blk_below (g:=gb259) (o:=.cells #[.int .i64 a0_0,.int .i64 a0_1,.int .i64 a0_2] 81 (0,0)) (by (with_reducible repeat (first|refine blk_drewN ?_ _|refine blk_drew ?_|refine blk_alloc ?_ _));exact BK259.out) hb);have n1_:=Aside0.mk (below_step (by repeat (first|(with_reducible first|exact HB.out|apply below_alloc|apply pw_below_drewN|apply below_drew1|refine below_set ?_ GE259.out)|exact HB.out)) hb);have n2_:=Aside0.mk (hbox);have n3_:=Aside0.mk ((by rw [hg];exact (below_size (by repeat (first|(with_reducible first|exact HB.out|apply below_alloc|apply pw_below_drewN|apply below_drew1|refine below_set ?_ GE259.out)|exact HB.out))):w.heap.size≤gb260));have n4_:=Aside0.mk ((by rw [hg];exact (below_size (by repeat (first|(with_reducible first|exact HB.out|apply below_alloc|apply pw_below_drewN|apply below_drew1|refine below_set ?_ GE259.out)|exact HB.out))):w.heap.size≤gb260));have n5_:=Aside0.mk ((by rw [hg];exact Nat.ne_of_lt (blk_lt (g:=gb259) (o:=.cells #[.int .i64 a0_0,.int .i64 a0_1,.int .i64 a0_2] 81 (0,0)) (by (with_reducible repeat (first|refine blk_drewN ?_ _|refine blk_drew ?_|refine blk_alloc ?_ _));exact BK259.out)):gb259≠gb260));have n6_:=Aside0.mk ((by rw [hg];exact Nat.ne_of_gt (blk_lt (g:=gb259) (o:=.cells #[.int .i64 a0_0,.int .i64 a0_1,.int .i64 a0_2] 81 (0,0)) (by (with_reducible repeat (first|refine blk_drewN ?_ _|refine blk_drew ?_|refine blk_alloc ?_ _));exact BK259.out)):gb260≠gb259));clear BK259;clear HB;have BK259:=n0_;have HB:=n1_;have BK260:=n2_;have GW260:=n3_;have GE260:=n4_;have NB259_260:=n5_;have NB260_259:=n6_;clear n0_ n1_ n2_ n3_ n4_ n5_ n6_;clear hb hbox hg;have hnb8:=NB259_260.out;have hnc8:=NB260_259.out;have hcz9_0:w7.cell? ⟨gb259,0,none⟩=some (.int .i64 a0_0):=(blk_cell BK259.out 0).trans rfl;have hcz9_1:w7.cell? ⟨gb259,1,none⟩=some (.int .i64 a0_1):=(blk_cell BK259.out 1).trans rfl;have hcz9_2:w7.cell? ⟨gb259,2,none⟩=some (.int .i64 a0_2):=(blk_cell BK259.out 2).trans rfl;have hfz9_0:=blk_frozen BK259.out 0;have hfz9_1:=blk_frozen BK259.out 1;have hfz9_2:=blk_frozen BK259.out 2;have hcz10_0:w7.cell? ⟨gb260,0,none⟩=some (.int .i64 a1_0):=(blk_cell BK260.out 0).trans rfl;have hcz10_1:w7.cell? ⟨gb260,1,none⟩=some (.int .i64 a1_1):=(blk_cell BK260.out 1).trans rfl;have hcz10_2:w7.cell? ⟨gb260,2,none⟩=some (.int .i64 a1_2):=(blk_cell BK260.out 2).trans rfl;have hfz10_0:=blk_frozen BK260.out 0;have hfz10_1:=blk_frozen BK260.out 1;have hfz10_2:=blk_frozen BK260.out 2))
    go_ret
    exact ⟨by first|rfl|(simp [errW_none,errW_some]<;>rfl)|(simp [*,errW_none,errW_some]<;>rfl),by repeat (first|(with_reducible first|exact HB.out|apply below_alloc|apply pw_below_drewN|apply below_drew1|refine below_set ?_ GE259.out|refine below_set ?_ GE260.out)|exact HB.out)⟩
   ·rw [if_neg c5] at H
    exact absurd H (by simp)
  ·rw [if_neg c4] at H
   exact absurd H (by simp)
 ·rw [if_neg c3] at H
  exact absurd H (by simp)
/-! ### laws_eqKernS: function 35 -/
def laws_eqKernS.l0:Nat→List (S81)→List (S81)→Int→Option (Bool)
 |0,_,_,_=>none
 |k+1,x0,x1,x5=>if x5<(x0.length:Int) then (if 0≤x5 then (if x5<(x1.length:Int) then ((laws_eqKern.f ((rd_T81 x0 x5).f0) ((rd_T81 x0 x5).f1) ((rd_T81 x0 x5).f2) ((rd_T81 x1 x5).f0) ((rd_T81 x1 x5).f1) ((rd_T81 x1 x5).f2)).bind fun t263=>(if t263=true then (laws_eqKernS.l0 k x0 x1 (wrap64 (x5+1))) else (none))) else (none)) else (none)) else (some true)
def laws_eqKernS.f (k:Nat) (l0:List (S81)) (l1:List (S81)):Option (Bool):=if (l0.length:Int)=(l1.length:Int) then (laws_eqKernS.l0 k l0 l1 0) else (none)
theorem laws_eqKernS.mono_l:∀ k,(∀ y0 y1 y2,LeO (laws_eqKernS.l0 k y0 y1 y2) (laws_eqKernS.l0 (k+1) y0 y1 y2))
 |0=>fun _ _ _ r h=>by simp [laws_eqKernS.l0] at h
 |k+1=>by
  have ih0:=laws_eqKernS.mono_l k
  ·intro y0 y1 y2
   unfold laws_eqKernS.l0
   repeat' first
   |(with_reducible exact ih0 _ _ _)
   |(with_reducible exact LeO.refl _)
   |(with_reducible exact LeO.none _)
   |(with_reducible refine LeO.ite ?_ ?_)
   |(with_reducible refine LeO.bind ?_ (fun _=>?_))
   |exact ih0 _ _ _
   |exact LeO.none _
   |refine LeO.ite ?_ ?_
   |refine LeO.bind ?_ (fun _=>?_)
theorem laws_eqKernS.mono:∀ a0 a1 k,LeO (laws_eqKernS.f k a0 a1) (laws_eqKernS.f (k+1) a0 a1):=by
 intro a0 a1 k
 have ih0:=laws_eqKernS.mono_l k
 unfold laws_eqKernS.f
 repeat' first
   |(with_reducible exact ih0 _ _ _)
   |(with_reducible exact LeO.refl _)
   |(with_reducible exact LeO.none _)
   |(with_reducible refine LeO.ite ?_ ?_)
   |(with_reducible refine LeO.bind ?_ (fun _=>?_))
   |exact ih0 _ _ _
   |exact LeO.none _
   |refine LeO.ite ?_ ?_
   |refine LeO.bind ?_ (fun _=>?_)
def laws_eqKernS.T6:Bool×List (List Nat×List Nat):=(true,[([],[]),([],[]),([0,1],[0,1]),([2],[2]),([],[]),([],[]),([4,5],[4,5]),([6],[6]),([3,7],[3,7]),([8],[8])])
def laws_eqKernS.B6:List Nat:=[0,0,3,7,0,0,48,112,255,511]
theorem laws_eqKernS.tab6:rtab .any (opsOf Try.f35 6)=laws_eqKernS.T6:=by kernel_rfl
theorem laws_eqKernS.bits6:waitsOk laws_eqKernS.T6.2 laws_eqKernS.B6=true:=by kernel_rfl
set_option maxHeartbeats 8000000 in
set_option maxRecDepth 100000 in
theorem laws_eqKernS.calls (k:Nat) (A0:Option Addr) (c0:Nat) (l0:List (S81)) (A1:Option Addr) (c1:Nat) (l1:List (S81)) (r:Bool) (w:World) (hr0:Kd.C k81 w A0 l0.length l0) (hc0:l0.length≤c0) (hr1:Kd.C k81 w A1 l1.length l1) (hc1:l1.length≤c1) (h:laws_eqKernS.f k l0 l1=some r) :
  Calls Try.prog 35 #[.slice A0 l0.length c0,.slice A1 l1.length c1] w fun e w'=>e=.returned (.bool r)∧Below w.heap.size w w':=by
 have hu81:=Try.underlying81
 have HR0:=Aside0.mk hr0
 have HC0:=Aside0.mk hc0
 clear hr0 hc0
 have HR1:=Aside0.mk hr1
 have HC1:=Aside0.mk hc1
 clear hr1 hc1
 have HB:=Aside0.mk (Below.refl w.heap.size w)
 have H:(if (l0.length:Int)=(l1.length:Int) then (laws_eqKernS.l0 k l0 l1 0) else (none))=some r:=h
 clear h
 by_cases c3:(l0.length:Int)=(l1.length:Int)
 ·rw [if_pos c3] at H
  have c3b0:((l0.length:Int)==(l1.length:Int))=true:=beq_iff_eq.mpr c3
  have c3b1:((l0.length:Int) != (l1.length:Int))=false:=bne_eq_false_iff_eq.mpr c3
  have c3b2:(l0.length==l1.length)=true:=by first|simpa using c3|(simp at c3 ⊢;omega)
  clear c3
  have H':=Aside0.mk H
  clear H
  go_enter Try.func35,Try.ntmps35
  go_wp2
  go_loopg [5] k (fun kq v5 w'=>∃ (x5_1:Int),v5=.int .i64 x5_1∧Aside0 (laws_eqKernS.l0 kq l0 l1 x5_1=some r)∧Aside0 (kq≤k)∧Aside0 (Below w.heap.size w w'))
  case atStart=>exact ⟨(0),(by first|rfl|(simp;done)|(simp [*];done)),H',⟨Nat.le_refl _⟩,⟨by repeat (first|(with_reducible first|exact HB.out|apply below_alloc|apply pw_below_drewN|apply below_drew1)|exact HB.out)⟩⟩
  case round=>
   clear H'
   try clear c1
   try clear p2
   try clear c3
   try clear c3b0
   try clear c3b1
   try clear c3b2
   obtain ⟨x5_1,rfl,HA,HK1,HB⟩:=hrel
   cases gk with
   |zero=>exact absurd HA.out (by simp [laws_eqKernS.l0])
   |succ k1=>
    have H:=HA.out
    clear HA
    simp only [laws_eqKernS.l0] at H
    by_cases c4:x5_1<(l0.length:Int)
    ·rw [if_pos c4] at H
     have c4b0:decide (x5_1<(l0.length:Int))=true:=decide_eq_true c4
     clear c4
     by_cases c5:0≤x5_1
     ·rw [if_pos c5] at H
      have c5b0:decide (0≤x5_1)=true:=decide_eq_true c5
      clear c5
      by_cases c6:x5_1<(l1.length:Int)
      ·rw [if_pos c6] at H
       have c6b0:decide (x5_1<(l1.length:Int))=true:=decide_eq_true c6
       clear c6
       replace H:=Option.bind_eq_some_iff.mp H
       obtain ⟨t263,A70,H⟩:=H
       replace H:(if t263=true then (laws_eqKernS.l0 k1 l0 l1 (wrap64 (x5_1+1))) else (none))=some r:=H
       have A7:=Aside0.mk A70
       clear A70
       by_cases c8:t263=true
       ·subst c8
        have H1:(laws_eqKernS.l0 k1 l0 l1 (wrap64 (x5_1+1)))=some r:=by rw [if_pos rfl] at H;exact H
        clear H
        have H:=H1
        clear H1
        have H':=Aside0.mk H
        clear H
        try go_wp2
        have n0_:=Aside0.mk (below_drew1 HB.out)
        clear HB
        have HB:=n0_
        clear n0_
        have p261:0≤(x5_1:Int):=of_decide_eq_true (by first|(with_reducible assumption)|assumption)
        have q261:x5_1<(l0.length:Int):=of_decide_eq_true (by first|(with_reducible assumption)|assumption)
        obtain ⟨ad261,e261,hx261_0,hx261_1,hx261_2⟩:=at_T81 HR0.out x5_1 p261 q261
        have hw261_2:=hx261_2
        have hw261_1:=hx261_1
        have hw261_0:=hx261_0
        cases e261
        replace hx261_0:=(HB.out.cell (World.block_lt_of_cell? w _ hx261_0)).trans hx261_0
        replace hx261_1:=(HB.out.cell (World.block_lt_of_cell? w _ hx261_1)).trans hx261_1
        replace hx261_2:=(HB.out.cell (World.block_lt_of_cell? w _ hx261_2)).trans hx261_2
        replace p261:=eq_true p261
        replace q261:=eq_true q261
        have p262:0≤(x5_1:Int):=of_decide_eq_true (by first|(with_reducible assumption)|assumption)
        have q262:x5_1<(l1.length:Int):=of_decide_eq_true (by first|(with_reducible assumption)|assumption)
        obtain ⟨ad262,e262,hx262_0,hx262_1,hx262_2⟩:=at_T81 HR1.out x5_1 p262 q262
        have hw262_2:=hx262_2
        have hw262_1:=hx262_1
        have hw262_0:=hx262_0
        cases e262
        replace hx262_0:=(HB.out.cell (World.block_lt_of_cell? w _ hx262_0)).trans hx262_0
        replace hx262_1:=(HB.out.cell (World.block_lt_of_cell? w _ hx262_1)).trans hx262_1
        replace hx262_2:=(HB.out.cell (World.block_lt_of_cell? w _ hx262_2)).trans hx262_2
        replace p262:=eq_true p262
        replace q262:=eq_true q262
        refine start_ (n:=10) (S:=fun w'=>w'.cell? (ad261.add ((x5_1).toNat*3))=some (.int .i64 ((rd_T81 l0 x5_1).f0))∧w'.cell? ⟨(ad261.add ((x5_1).toNat*3)).block,(ad261.add ((x5_1).toNat*3)).off+1,none⟩=some (.int .i64 ((rd_T81 l0 x5_1).f1))∧w'.cell? ⟨(ad261.add ((x5_1).toNat*3)).block,(ad261.add ((x5_1).toNat*3)).off+2,none⟩=some (.int .i64 ((rd_T81 l0 x5_1).f2))∧w'.cell? (ad262.add ((x5_1).toNat*3))=some (.int .i64 ((rd_T81 l1 x5_1).f0))∧w'.cell? ⟨(ad262.add ((x5_1).toNat*3)).block,(ad262.add ((x5_1).toNat*3)).off+1,none⟩=some (.int .i64 ((rd_T81 l1 x5_1).f1))∧w'.cell? ⟨(ad262.add ((x5_1).toNat*3)).block,(ad262.add ((x5_1).toNat*3)).off+2,none⟩=some (.int .i64 ((rd_T81 l1 x5_1).f2))) (ds:=[]) #[false,false,false,false,false,false,false,false,false,false] (by kernel_rfl) rfl rfl ⟨((HB.out.cell (World.block_lt_of_cell? w _ hw261_0)).trans hw261_0),((HB.out.cell (World.block_lt_of_cell? w _ hw261_1)).trans hw261_1),((HB.out.cell (World.block_lt_of_cell? w _ hw261_2)).trans hw261_2),((HB.out.cell (World.block_lt_of_cell? w _ hw262_0)).trans hw262_0),((HB.out.cell (World.block_lt_of_cell? w _ hw262_1)).trans hw262_1),((HB.out.cell (World.block_lt_of_cell? w _ hw262_2)).trans hw262_2)⟩ (fun hHeld=>?_);refine with_tabW laws_eqKernS.tab6 laws_eqKernS.bits6 (fun HT_ HW_=>?_)
        generalize wr.drew=w9 at HB hx261_0 hx261_1 hx261_2 hx262_0 hx262_1 hx262_2 hHeld ⊢
        refine pure_ (i:=0) (N:=some 17) (v:=?_) (a':=?_) #[true,false,false,false,false,false,false,false,false,false] rfl rfl (any_of HT_.out (by kernel_rfl)) (fun _ _ _ h=>h) (Or.inl ⟨by rfl,?_⟩) ?_ ?_
        rotate_left
        ·intro w'
         go_simp
         with_reducible rfl
        rotate_left
        ·simp only [Act.put,List.setIfInBounds_toArray,List.set_cons_zero,List.set_cons_succ,i64_w,i32_w]
         rfl
        refine pure_ (i:=1) (N:=some 18) (v:=?_) (a':=?_) #[true,true,false,false,false,false,false,false,false,false] rfl rfl (any_of HT_.out (by kernel_rfl)) (fun _ _ _ h=>h) (Or.inl ⟨by rfl,?_⟩) ?_ ?_
        rotate_left
        ·intro w'
         go_simp
         with_reducible rfl
        rotate_left
        ·simp only [Act.put,List.setIfInBounds_toArray,List.set_cons_zero,List.set_cons_succ,i64_w,i32_w]
         rfl
        refine pure_ (i:=2) (N:=some 19) (v:=?_) (a':=?_) #[true,true,true,false,false,false,false,false,false,false] rfl rfl (any_of HT_.out (by kernel_rfl)) (fun _ _ _ h=>h) (Or.inl ⟨by rfl,?_⟩) ?_ ?_
        rotate_left
        ·intro w'
         go_simp
         with_reducible rfl
        rotate_left
        ·simp only [Act.put,List.setIfInBounds_toArray,List.set_cons_zero,List.set_cons_succ,i64_w,i32_w]
         rfl
        refine pure_ (i:=4) (N:=some 21) (v:=?_) (a':=?_) #[true,true,true,false,true,false,false,false,false,false] rfl rfl (any_of HT_.out (by kernel_rfl)) (fun _ _ _ h=>h) (Or.inl ⟨by rfl,?_⟩) ?_ ?_
        rotate_left
        ·intro w'
         go_simp
         with_reducible rfl
        rotate_left
        ·simp only [Act.put,List.setIfInBounds_toArray,List.set_cons_zero,List.set_cons_succ,i64_w,i32_w]
         rfl
        refine pure_ (i:=5) (N:=some 22) (v:=?_) (a':=?_) #[true,true,true,false,true,true,false,false,false,false] rfl rfl (any_of HT_.out (by kernel_rfl)) (fun _ _ _ h=>h) (Or.inl ⟨by rfl,?_⟩) ?_ ?_
        rotate_left
        ·intro w'
         go_simp
         with_reducible rfl
        rotate_left
        ·simp only [Act.put,List.setIfInBounds_toArray,List.set_cons_zero,List.set_cons_succ,i64_w,i32_w]
         rfl
        refine pure_ (i:=6) (N:=some 23) (v:=?_) (a':=?_) #[true,true,true,false,true,true,true,false,false,false] rfl rfl (any_of HT_.out (by kernel_rfl)) (fun _ _ _ h=>h) (Or.inl ⟨by rfl,?_⟩) ?_ ?_
        rotate_left
        ·intro w'
         go_simp
         with_reducible rfl
        rotate_left
        ·simp only [Act.put,List.setIfInBounds_toArray,List.set_cons_zero,List.set_cons_succ,i64_w,i32_w]
         rfl
        refine take_ (i:=3) (N:=some 20) (v:=?_) (a':=?_) #[true,true,true,true,true,true,true,false,false,false] rfl rfl (take_ofW HT_.out HW_.out (by kernel_rfl)) (fun _ _ _ h=>h) (Or.inl ⟨by rfl,?_⟩) hHeld ?_ ?_
        rotate_left
        ·rintro w' ⟨s0,s1,s2,s3,s4,s5⟩
         go_simp
         with_reducible rfl
        rotate_left
        ·simp only [Act.put,List.setIfInBounds_toArray,List.set_cons_zero,List.set_cons_succ,i64_w,i32_w]
         rfl
        refine take_ (i:=7) (N:=some 24) (v:=?_) (a':=?_) #[true,true,true,true,true,true,true,true,false,false] rfl rfl (take_ofW HT_.out HW_.out (by kernel_rfl)) (fun _ _ _ h=>h) (Or.inl ⟨by rfl,?_⟩) hHeld ?_ ?_
        rotate_left
        ·rintro w' ⟨s0,s1,s2,s3,s4,s5⟩
         go_simp
         with_reducible rfl
        rotate_left
        ·simp only [Act.put,List.setIfInBounds_toArray,List.set_cons_zero,List.set_cons_succ,i64_w,i32_w]
         rfl
        refine one_ (i:=8) (N:=some 25) #[true,true,true,true,true,true,true,true,true,false] rfl rfl (one_of HT_.out (by kernel_rfl)) (by decide) (fun K hK=>?_)
        refine goes_ Try.func68 (by kernel_rfl) rfl #[.agg #[.int .i64 ((rd_T81 l0 x5_1).f0),.int .i64 ((rd_T81 l0 x5_1).f1),.int .i64 ((rd_T81 l0 x5_1).f2)],.agg #[.int .i64 ((rd_T81 l1 x5_1).f0),.int .i64 ((rd_T81 l1 x5_1).f1),.int .i64 ((rd_T81 l1 x5_1).f2)]] (by rfl) rfl rfl (by (try simp only [List.map_toArray,List.map_cons,List.map_nil]);first|done|rfl|(simp only [List.length_drop,List.length_take];rfl)) ?_
        with_reducible refine (laws_eqKern.calls ((rd_T81 l0 x5_1).f0) ((rd_T81 l0 x5_1).f1) ((rd_T81 l0 x5_1).f2) ((rd_T81 l1 x5_1).f0) ((rd_T81 l1 x5_1).f1) ((rd_T81 l1 x5_1).f2) true _ A7.out).mono ?_
        rintro e w10 ⟨rfl,hb⟩
        refine ⟨_,rfl,?_⟩
        have n0_:=Aside0.mk (below_step (by repeat (first|(with_reducible first|exact HB.out|apply below_alloc|apply pw_below_drewN|apply below_drew1)|exact HB.out)) hb)
        clear HB
        have HB:=n0_
        clear n0_
        (try clear hb)
        (try clear hb2)
        (try clear hk)
        (try clear hi)
        refine hK.out _ _ ⟨((HB.out.cell (World.block_lt_of_cell? w _ hw261_0)).trans hw261_0),((HB.out.cell (World.block_lt_of_cell? w _ hw261_1)).trans hw261_1),((HB.out.cell (World.block_lt_of_cell? w _ hw261_2)).trans hw261_2),((HB.out.cell (World.block_lt_of_cell? w _ hw262_0)).trans hw262_0),((HB.out.cell (World.block_lt_of_cell? w _ hw262_1)).trans hw262_1),((HB.out.cell (World.block_lt_of_cell? w _ hw262_2)).trans hw262_2)⟩ (fun hHeld=>?_)
        clear hK K
        refine norm_ (a':=?_) ?_ ?_
        rotate_left
        ·show Act.put _ (some 25) _=_
         simp only [Act.put,List.setIfInBounds_toArray,List.set_cons_zero,List.set_cons_succ,i64_w,i32_w]
         rfl
        refine pure_ (i:=9) (N:=some 26) (v:=?_) (a':=?_) #[true,true,true,true,true,true,true,true,true,true] rfl rfl (any_of HT_.out (by kernel_rfl)) (fun _ _ _ h=>h) (Or.inl ⟨by rfl,?_⟩) ?_ ?_
        rotate_left
        ·intro w'
         go_simp
         with_reducible rfl
        rotate_left
        ·simp only [Act.put,List.setIfInBounds_toArray,List.set_cons_zero,List.set_cons_succ,i64_w,i32_w]
         rfl
        refine done_ (done_of HT_.out (by kernel_rfl)) ?_
        try go_wp2
        go_roundg k1
        case measure=>have:=HK1.out;omega
        case rel=>exact ⟨(wrap64 (x5_1+1)),(by first|rfl|(simp;done)|(simp [*];done)),H',⟨by have:=HK1.out;omega⟩,⟨by repeat (first|(with_reducible first|exact HB.out|apply below_alloc|apply pw_below_drewN|apply below_drew1)|exact HB.out)⟩⟩
       ·replace c8:=Bool.eq_false_iff.mpr c8
        subst c8
        exact absurd H (by simp)
      ·rw [if_neg c6] at H
       exact absurd H (by simp)
     ·rw [if_neg c5] at H
      exact absurd H (by simp)
    ·rw [if_neg c4] at H
     have c4b0:decide (x5_1<(l0.length:Int))=false:=decide_eq_false c4
     clear c4
     obtain rfl:=Option.some.inj H
     go_wp2
     go_ret
     exact ⟨by first|rfl|(simp [errW_none,errW_some]<;>rfl)|(simp [*,errW_none,errW_some]<;>rfl),by repeat (first|(with_reducible first|exact HB.out|apply below_alloc|apply pw_below_drewN|apply below_drew1)|exact HB.out)⟩
 ·rw [if_neg c3] at H
  exact absurd H (by simp)
/-! ### laws_eqLig: function 69 -/
def laws_eqLig.f (a0_0:Int) (a0_1:Int) (a0_2:Int) (a1_0:Int) (a1_1:Int) (a1_2:Int):Option (Bool):=if a0_0=a1_0 then (if a0_1=a1_1 then (if a0_2=a1_2 then (some true) else (none)) else (none)) else (none)
set_option maxHeartbeats 8000000 in
set_option maxRecDepth 100000 in
theorem laws_eqLig.calls (a0_0:Int) (a0_1:Int) (a0_2:Int) (a1_0:Int) (a1_1:Int) (a1_2:Int) (r:Bool) (w:World) (h:laws_eqLig.f a0_0 a0_1 a0_2 a1_0 a1_1 a1_2=some r) :
  Calls Try.prog 69 #[.agg #[.int .i64 a0_0,.int .i64 a0_1,.int .i64 a0_2],.agg #[.int .i64 a1_0,.int .i64 a1_1,.int .i64 a1_2]] w fun e w'=>e=.returned (.bool r)∧Below w.heap.size w w':=by
 have hu84:=Try.underlying84
 have HB:=Aside0.mk (Below.refl w.heap.size w)
 have H:(if a0_0=a1_0 then (if a0_1=a1_1 then (if a0_2=a1_2 then (some true) else (none)) else (none)) else (none))=some r:=h
 clear h
 by_cases c3:a0_0=a1_0
 ·rw [if_pos c3] at H
  have c3b0:(a0_0==a1_0)=true:=beq_iff_eq.mpr c3
  have c3b1:(a0_0 != a1_0)=false:=bne_eq_false_iff_eq.mpr c3
  clear c3
  by_cases c4:a0_1=a1_1
  ·rw [if_pos c4] at H
   have c4b0:(a0_1==a1_1)=true:=beq_iff_eq.mpr c4
   have c4b1:(a0_1 != a1_1)=false:=bne_eq_false_iff_eq.mpr c4
   clear c4
   by_cases c5:a0_2=a1_2
   ·rw [if_pos c5] at H
    have c5b0:(a0_2==a1_2)=true:=beq_iff_eq.mpr c5
    have c5b1:(a0_2 != a1_2)=false:=bne_eq_false_iff_eq.mpr c5
    clear c5
    obtain rfl:=Option.some.inj H
    go_enter Try.func69,Try.ntmps69
    go_wp2_with (first|((with_reducible refine gate_dst (N:=2) rfl ?_);refine box_event ?hg (N:=2) ?hd (cs:=#[.int .i64 a0_0,.int .i64 a0_1,.int .i64 a0_2]) (t:=84) ?hr ?_;(case hd=>rfl);(case hg=>rfl);(case hr=>first|(go_simp;done)|(go_simp;rfl));intro gb264 hg w6 hbox hb;have n0_:=Aside0.mk (below_step (by repeat (first|(with_reducible first|exact HB.out|apply below_alloc|apply pw_below_drewN|apply below_drew1)|exact HB.out)) hb);have n1_:=Aside0.mk (hbox);have n2_:=Aside0.mk ((by rw [hg];exact (below_size (by repeat (first|(with_reducible first|exact HB.out|apply below_alloc|apply pw_below_drewN|apply below_drew1)|exact HB.out))):w.heap.size≤gb264));have n3_:=Aside0.mk ((by rw [hg];exact (below_size (by repeat (first|(with_reducible first|exact HB.out|apply below_alloc|apply pw_below_drewN|apply below_drew1)|exact HB.out))):w.heap.size≤gb264));clear HB;have HB:=n0_;have BK264:=n1_;have GW264:=n2_;have GE264:=n3_;clear n0_ n1_ n2_ n3_;clear hb hbox hg)|((with_reducible refine gate_dst (N:=3) rfl ?_);refine box_event ?hg (N:=3) ?hd (cs:=#[.int .i64 a1_0,.int .i64 a1_1,.int .i64 a1_2]) (t:=84) ?hr ?_;(case hd=>rfl);(case hg=>rfl);(case hr=>first|(go_simp;done)|(go_simp;rfl));intro gb265 hg w7 hbox hb;have n0_:=Aside0.mk (blk_below (g:=gb264) (o:=.cells #[.int .i64 a0_0,.int .i64 a0_1,.int .i64 a0_2] 84 (0,0)) (by (with_reducible repeat (first|refine blk_drewN ?_ _|refine blk_drew ?_|refine blk_alloc ?_ _));exact BK264.out) hb);have n1_:=Aside0.mk (below_step (by repeat (first|(with_reducible first|exact HB.out|apply below_alloc|apply pw_below_drewN|apply below_drew1|refine below_set ?_ GE264.out)|exact HB.out)) hb);have n2_:=Aside0.mk (hbox);have n3_:=Aside0.mk ((by rw [hg];exact (below_size (by repeat (first|(with_reducible first|exact HB.out|apply below_alloc|apply pw_below_drewN|apply below_drew1|refine below_set ?_ GE264.out)|exact HB.out))):w.heap.size≤gb265));have n4_:=Aside0.mk ((by rw [hg];exact (below_size (by repeat (first|(with_reducible first|exact HB.out|apply below_alloc|apply pw_below_drewN|apply below_drew1|refine below_set ?_ GE264.out)|exact HB.out))):w.heap.size≤gb265));have n5_:=Aside0.mk ((by rw [hg];exact Nat.ne_of_lt (blk_lt (g:=gb264) (o:=.cells #[.int .i64 a0_0,.int .i64 a0_1,.int .i64 a0_2] 84 (0,0)) (by (with_reducible repeat (first|refine blk_drewN ?_ _|refine blk_drew ?_|refine blk_alloc ?_ _));exact BK264.out)):gb264≠gb265));have n6_:=Aside0.mk ((by rw [hg];exact Nat.ne_of_gt (blk_lt (g:=gb264) (o:=.cells #[.int .i64 a0_0,.int .i64 a0_1,.int .i64 a0_2] 84 (0,0)) (by (with_reducible repeat (first|refine blk_drewN ?_ _|refine blk_drew ?_|refine blk_alloc ?_ _));exact BK264.out)):gb265≠gb264));clear BK264;clear HB;have BK264:=n0_;have HB:=n1_;have BK265:=n2_;have GW265:=n3_;have GE265:=n4_;have NB264_265:=n5_;have NB265_264:=n6_;clear n0_ n1_ n2_ n3_ n4_ n5_ n6_;clear hb hbox hg;have hnb8:=NB264_265.out;have hnc8:=NB265_264.out;have hcz9_0:w7.cell? ⟨gb264,0,none⟩=some (.int .i64 a0_0):=(blk_cell BK264.out 0).trans rfl;have hcz9_1:w7.cell? ⟨gb264,1,none⟩=some (.int .i64 a0_1):=(blk_cell BK264.out 1).trans rfl;have hcz9_2:w7.cell? ⟨gb264,2,none⟩=some (.int .i64 a0_2):=(blk_cell BK264.out 2).trans rfl;have hfz9_0:=blk_frozen BK264.out 0;have hfz9_1:=blk_frozen BK264.out 1;have hfz9_2:=blk_frozen BK264.out 2;have hcz10_0:w7.cell? ⟨gb265,0,none⟩=some (.int .i64 a1_0):=(blk_cell BK265.out 0).trans rfl;have hcz10_1:w7.cell? ⟨gb265,1,none⟩=some (.int .i64 a1_1):=(blk_cell BK265.out 1).trans rfl;have hcz10_2:w7.cell? ⟨gb265,2,none⟩=some (.int .i64 a1_2):=(blk_cell BK265.out 2).trans rfl;have hfz10_0:=blk_frozen BK265.out 0;have hfz10_1:=blk_frozen BK265.out 1;have hfz10_2:=blk_frozen BK265.out 2))
    go_ret
    exact ⟨by first|rfl|(simp [errW_none,errW_some]<;>rfl)|(simp [*,errW_none,errW_some]<;>rfl),by repeat (first|(with_reducible first|exact HB.out|apply below_alloc|apply pw_below_drewN|apply below_drew1|refine below_set ?_ GE264.out|refine below_set ?_ GE265.out)|exact HB.out)⟩
   ·rw [if_neg c5] at H
    exact absurd H (by simp)
  ·rw [if_neg c4] at H
   exact absurd H (by simp)
 ·rw [if_neg c3] at H
  exact absurd H (by simp)
end Go.Proofs.Ytiinihponcojkaa.QFnExactShape
