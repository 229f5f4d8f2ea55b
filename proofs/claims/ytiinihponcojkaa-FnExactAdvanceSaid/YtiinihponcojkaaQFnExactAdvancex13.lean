/- Written by a program (wip/tools/own_print.py) out of the walk that the kit's printer made; turned where it fell. -/
-- PRINTED by print.py (a twelfth state) out of the translation. Not trusted: Lean checks it.
import Derived.Test.YtiinihponcojkaaQFnExactAdvancex0
namespace Go.Proofs.Ytiinihponcojkaa.QFnExactAdvance
open Go.RowKit Go.Proofs.YtiinihponcojkaaV.PrintWords Go.Proofs.YtiinihponcojkaaV.PrintLast Go.Proofs.YtiinihponcojkaaV.PrintMore
attribute [local go_sem] max2_int min2_int max_two min_two max_three min_three max_four min_four   -- for this text's walks alone
set_option linter.unusedVariables false
set_option linter.unusedSimpArgs false
/-! ### impl_down: function 51 -/
def impl_down.f (a0:Int) (a1:Int):Option (Int):=if a1=0 then (none) else (if (Int.tmod a0 a1)=0 then (some (wrap64 (Int.tdiv a0 a1))) else (if ((decide (a0<0)) != (decide (a1<0)))=true then (some (wrap64 ((wrap64 (Int.tdiv a0 a1)) - 1))) else (some (wrap64 (Int.tdiv a0 a1)))))
set_option maxHeartbeats 8000000 in
set_option maxRecDepth 100000 in
theorem impl_down.calls (a0:Int) (a1:Int) (r:Int) (w:World) (h:impl_down.f a0 a1=some r) :
  Calls Try.prog 51 #[.int .i64 a0,.int .i64 a1] w fun e w'=>e=.returned (.int .i64 r)∧Drawn0 w w':=by
 have H:(if a1=0 then (none) else (if (Int.tmod a0 a1)=0 then (some (wrap64 (Int.tdiv a0 a1))) else (if ((decide (a0<0)) != (decide (a1<0)))=true then (some (wrap64 ((wrap64 (Int.tdiv a0 a1)) - 1))) else (some (wrap64 (Int.tdiv a0 a1))))))=some r:=h
 clear h
 by_cases c3:a1=0
 ·rw [if_pos c3] at H
  exact absurd H (by simp)
 ·rw [if_neg c3] at H
  have c3b0:(a1==0)=false:=beq_eq_false_iff_ne.mpr c3
  have c3b1:(a1 != 0)=true:=bne_iff_ne.mpr c3
  by_cases c4:(Int.tmod a0 a1)=0
  ·rw [if_pos c4] at H
   have c4b0:((Int.tmod a0 a1)==0)=true:=beq_iff_eq.mpr c4
   have c4b1:((Int.tmod a0 a1) != 0)=false:=bne_eq_false_iff_eq.mpr c4
   clear c4
   obtain rfl:=Option.some.inj H
   go_enter Try.func51,Try.ntmps51
   go_wp2
   go_ret
   exact ⟨by first|rfl|(simp;done)|(simp [*];done),by repeat (first|exact Drawn0.refl _|apply Drawn0.step)⟩
  ·rw [if_neg c4] at H
   have c4b0:((Int.tmod a0 a1)==0)=false:=beq_eq_false_iff_ne.mpr c4
   have c4b1:((Int.tmod a0 a1) != 0)=true:=bne_iff_ne.mpr c4
   by_cases c5:((decide (a0<0)) != (decide (a1<0)))=true
   ·rw [if_pos c5] at H
    have c5b0:((decide (a0<0)) != (decide (a1<0)))=true:=c5
    (try (have c5b1:decide ((decide (a0<0))=(decide (a1<0)))=false:=by simpa using c5))
    (try (have c5b2:((decide (a0<0))==(decide (a1<0)))=false:=by simpa using c5))
    (try (have c5b3:¬ ((decide (a0<0))=(decide (a1<0))):=by simpa using c5))
    clear c5
    obtain rfl:=Option.some.inj H
    go_enter Try.func51,Try.ntmps51
    go_wp2
    go_ret
    exact ⟨by first|rfl|(simp;done)|(simp [*];done),by repeat (first|exact Drawn0.refl _|apply Drawn0.step)⟩
   ·rw [if_neg c5] at H
    have c5b0:((decide (a0<0)) != (decide (a1<0)))=false:=by simpa using c5
    (try (have c5b1:decide ((decide (a0<0))=(decide (a1<0)))=true:=by simpa using c5))
    (try (have c5b2:((decide (a0<0))==(decide (a1<0)))=true:=by simpa using c5))
    clear c5
    obtain rfl:=Option.some.inj H
    go_enter Try.func51,Try.ntmps51
    go_wp2
    go_ret
    exact ⟨by first|rfl|(simp;done)|(simp [*];done),by repeat (first|exact Drawn0.refl _|apply Drawn0.step)⟩
/-! ### impl_seenPoints: function 70 -/
def impl_seenPoints.l0:Nat→List Int→List Int→Int→Int→Option (List Int)
 |0,_,_,_,_=>none
 |k+1,x3,x7,x8,x9=>if x9<x8 then (if 0≤x9 then (if x9<(x7.length:Int) then (if (rd x7 x9)=10 then (impl_seenPoints.l0 k x3 x7 x8 (wrap64 (x9+1))) else (if (rd x7 x9)=173 then (impl_seenPoints.l0 k x3 x7 x8 (wrap64 (x9+1))) else (if (rd x7 x9)=8203 then (impl_seenPoints.l0 k x3 x7 x8 (wrap64 (x9+1))) else (if (rd x7 x9)=8205 then (impl_seenPoints.l0 k x3 x7 x8 (wrap64 (x9+1))) else (if (rd x7 x9)=8206 then (impl_seenPoints.l0 k x3 x7 x8 (wrap64 (x9+1))) else (if (rd x7 x9)=8207 then (impl_seenPoints.l0 k x3 x7 x8 (wrap64 (x9+1))) else (if x3.length<17592186044416 then (impl_seenPoints.l0 k (x3++[rd x7 x9]) x7 x8 (wrap64 (x9+1))) else (none)))))))) else (none)) else (none)) else (some x3)
def impl_seenPoints.f (k:Nat) (l0:List Int):Option (List Int):=impl_seenPoints.l0 k (([]:List Int)) l0 (l0.length:Int) 0
theorem impl_seenPoints.mono_l:∀ k,(∀ y0 y1 y2 y3,LeO (impl_seenPoints.l0 k y0 y1 y2 y3) (impl_seenPoints.l0 (k+1) y0 y1 y2 y3))
 |0=>fun _ _ _ _ r h=>by simp [impl_seenPoints.l0] at h
 |k+1=>by
  have ih0:=impl_seenPoints.mono_l k
  ·intro y0 y1 y2 y3
   unfold impl_seenPoints.l0
   repeat' first
   |(with_reducible exact ih0 _ _ _ _)
   |(with_reducible exact LeO.refl _)
   |(with_reducible exact LeO.none _)
   |(with_reducible refine LeO.ite ?_ ?_)
   |(with_reducible refine LeO.bind ?_ (fun _=>?_))
   |exact ih0 _ _ _ _
   |exact LeO.none _
   |refine LeO.ite ?_ ?_
   |refine LeO.bind ?_ (fun _=>?_)
theorem impl_seenPoints.mono:∀ a0 k,LeO (impl_seenPoints.f k a0) (impl_seenPoints.f (k+1) a0):=by
 intro a0 k
 have ih0:=impl_seenPoints.mono_l k
 unfold impl_seenPoints.f
 repeat' first
   |(with_reducible exact ih0 _ _ _ _)
   |(with_reducible exact LeO.refl _)
   |(with_reducible exact LeO.none _)
   |(with_reducible refine LeO.ite ?_ ?_)
   |(with_reducible refine LeO.bind ?_ (fun _=>?_))
   |exact ih0 _ _ _ _
   |exact LeO.none _
   |refine LeO.ite ?_ ?_
   |refine LeO.bind ?_ (fun _=>?_)
set_option maxHeartbeats 8000000 in
set_option maxRecDepth 100000 in
theorem impl_seenPoints.calls (k:Nat) (A0:Option Addr) (c0:Nat) (l0:List Int) (r:List Int) (w:World) (hr0:Kd.C (Kd.int .i64) w A0 l0.length l0) (hc0:l0.length≤c0) (h:impl_seenPoints.f k l0=some r) :
  Calls Try.prog 70 #[.slice A0 l0.length c0] w fun e w'=>∃ v0_:Value,e=.returned (v0_)∧Kd.R (Kd.int .i64) 3 w' w.heap.size (fun _=>True) v0_ r∧Below w.heap.size w w':=by
 have HR0:=Aside0.mk hr0
 have HC0:=Aside0.mk hc0
 clear hr0 hc0
 have HB:=Aside0.mk (Below.refl w.heap.size w)
 have H:(impl_seenPoints.l0 k (([]:List Int)) l0 (l0.length:Int) 0)=some r:=h
 clear h
 obtain ⟨y288,hy288⟩:∃ y_:List Int,y_=(([]:List Int)):=⟨_,rfl⟩
 replace H:(impl_seenPoints.l0 k y288 l0 (l0.length:Int) 0)=some r:=by first|(rw [hy288];with_reducible exact H)|(have H2_:=(Option.bind_some _ _).symm.trans H;rw [hy288];with_reducible exact H2_)|(have H2_:=(Option.bind_some _ _).symm.trans H;with_reducible exact H2_)|with_reducible exact H|(rw [hy288];exact H)|exact H
 have Ny288:=Aside0.mk hy288
 clear hy288
 have H':=Aside0.mk H
 clear H
 go_enter Try.func70,Try.ntmps70
 go_wp2_with (first|((with_reducible refine gate_dst (N:=6) rfl ?_);refine Kd.R_lit (Kd.int .i64) _ 3 ?hg (N:=6) ?hd (xs:=([]:List Int)) (inner:=[]) (ok:=fun _=>True) (okp:=fun _=>True) ?hr ?hp (fun _ hk=>hk) trivial (Below.refl _ _) (Nat.le_refl _) (by simp) ?_;(case hd=>rfl);(case hg=>rfl);(case hr=>first|(go_simp;done)|(go_simp;rfl));(case hp=>exact (Reps.none _ _));intro v289 w2 ho3 hb hg_ hnew_;clear hg_ hnew_;(first|rw [← Ny288.out] at ho3|(simp only [Int.reduceToNat] at ho3;rw [← Ny288.out] at ho3));have n0_:=Aside0.mk (Kd.R_lower ho3 (below_size (by repeat (first|(with_reducible first|exact HB.out|apply below_alloc|apply pw_below_drewN|apply below_drew1)|exact HB.out))));have n1_:=Aside0.mk (below_step (by repeat (first|(with_reducible first|exact HB.out|apply below_alloc|apply pw_below_drewN|apply below_drew1)|exact HB.out)) hb);clear HB;have HO290:=n0_;have HB:=n1_;clear n0_ n1_;clear hb ho3))
 go_loopg [3,9] k (fun kq v3 v9 w'=>∃ (x3_1:List Int) (x9_1:Int),v9=.int .i64 x9_1∧Aside0 (impl_seenPoints.l0 kq x3_1 l0 (l0.length:Int) x9_1=some r)∧Aside0 (kq≤k)∧Aside0 (Kd.R (Kd.int .i64) 3 w' w.heap.size (fun _=>True) v3 x3_1)∧Aside0 (Below w.heap.size w w'))
 case atStart=>exact ⟨(y288),(0),(by first|rfl|(simp;done)|(simp [*];done)),H',⟨Nat.le_refl _⟩,⟨by (with_reducible repeat (first|apply Kd.R_alloc|apply Kd.R_drewN|apply Kd.R_drew));exact HO290.out⟩,⟨by repeat (first|(with_reducible first|exact HB.out|apply below_alloc|apply pw_below_drewN|apply below_drew1)|exact HB.out)⟩⟩
 case round=>
  clear H'
  try clear p2
  obtain ⟨x3_1,x9_1,rfl,HA,HK1,HO_3,HB⟩:=hrel
  cases gk with
  |zero=>exact absurd HA.out (by simp [impl_seenPoints.l0])
  |succ k1=>
   have H:=HA.out
   clear HA
   simp only [impl_seenPoints.l0] at H
   by_cases c4:x9_1<(l0.length:Int)
   ·rw [if_pos c4] at H
    have c4b0:decide (x9_1<(l0.length:Int))=true:=decide_eq_true c4
    clear c4
    by_cases c5:0≤x9_1
    ·rw [if_pos c5] at H
     have c5b0:decide (0≤x9_1)=true:=decide_eq_true c5
     clear c5
     by_cases c6:x9_1<(l0.length:Int)
     ·rw [if_pos c6] at H
      have c6b0:decide (x9_1<(l0.length:Int))=true:=decide_eq_true c6
      clear c6
      by_cases c7:(rd l0 x9_1)=10
      ·rw [if_pos c7] at H
       have c7b0:((rd l0 x9_1)==10)=true:=beq_iff_eq.mpr c7
       have c7b1:((rd l0 x9_1) != 10)=false:=bne_eq_false_iff_eq.mpr c7
       clear c7
       have H':=Aside0.mk H
       clear H
       have p291:0≤(x9_1:Int):=of_decide_eq_true (by first|(with_reducible assumption)|assumption)
       have q291:x9_1<(l0.length:Int):=of_decide_eq_true (by first|(with_reducible assumption)|assumption)
       obtain ⟨ad291,e291,hx291_0⟩:=Kd.at_int HR0.out x9_1 p291 q291
       cases e291
       replace hx291_0:=(HB.out.cell (World.block_lt_of_cell? w _ hx291_0)).trans hx291_0
       replace p291:=eq_true p291
       replace q291:=eq_true q291
       go_wp2
       go_roundg k1
       case measure=>have:=HK1.out;omega
       case rel=>exact ⟨(x3_1),(wrap64 (x9_1+1)),(by first|rfl|(simp;done)|(simp [*];done)),H',⟨by have:=HK1.out;omega⟩,⟨by (with_reducible repeat (first|apply Kd.R_alloc|apply Kd.R_drewN|apply Kd.R_drew));exact HO_3.out⟩,⟨by repeat (first|(with_reducible first|exact HB.out|apply below_alloc|apply pw_below_drewN|apply below_drew1)|exact HB.out)⟩⟩
      ·rw [if_neg c7] at H
       have c7b0:((rd l0 x9_1)==10)=false:=beq_eq_false_iff_ne.mpr c7
       have c7b1:((rd l0 x9_1) != 10)=true:=bne_iff_ne.mpr c7
       by_cases c8:(rd l0 x9_1)=173
       ·rw [if_pos c8] at H
        have c8b0:((rd l0 x9_1)==173)=true:=beq_iff_eq.mpr c8
        have c8b1:((rd l0 x9_1) != 173)=false:=bne_eq_false_iff_eq.mpr c8
        clear c8
        have H':=Aside0.mk H
        clear H
        have p291:0≤(x9_1:Int):=of_decide_eq_true (by first|(with_reducible assumption)|assumption)
        have q291:x9_1<(l0.length:Int):=of_decide_eq_true (by first|(with_reducible assumption)|assumption)
        obtain ⟨ad291,e291,hx291_0⟩:=Kd.at_int HR0.out x9_1 p291 q291
        cases e291
        replace hx291_0:=(HB.out.cell (World.block_lt_of_cell? w _ hx291_0)).trans hx291_0
        replace p291:=eq_true p291
        replace q291:=eq_true q291
        go_wp2
        go_roundg k1
        case measure=>have:=HK1.out;omega
        case rel=>exact ⟨(x3_1),(wrap64 (x9_1+1)),(by first|rfl|(simp;done)|(simp [*];done)),H',⟨by have:=HK1.out;omega⟩,⟨by (with_reducible repeat (first|apply Kd.R_alloc|apply Kd.R_drewN|apply Kd.R_drew));exact HO_3.out⟩,⟨by repeat (first|(with_reducible first|exact HB.out|apply below_alloc|apply pw_below_drewN|apply below_drew1)|exact HB.out)⟩⟩
       ·rw [if_neg c8] at H
        have c8b0:((rd l0 x9_1)==173)=false:=beq_eq_false_iff_ne.mpr c8
        have c8b1:((rd l0 x9_1) != 173)=true:=bne_iff_ne.mpr c8
        by_cases c9:(rd l0 x9_1)=8203
        ·rw [if_pos c9] at H
         have c9b0:((rd l0 x9_1)==8203)=true:=beq_iff_eq.mpr c9
         have c9b1:((rd l0 x9_1) != 8203)=false:=bne_eq_false_iff_eq.mpr c9
         clear c9
         have H':=Aside0.mk H
         clear H
         have p291:0≤(x9_1:Int):=of_decide_eq_true (by first|(with_reducible assumption)|assumption)
         have q291:x9_1<(l0.length:Int):=of_decide_eq_true (by first|(with_reducible assumption)|assumption)
         obtain ⟨ad291,e291,hx291_0⟩:=Kd.at_int HR0.out x9_1 p291 q291
         cases e291
         replace hx291_0:=(HB.out.cell (World.block_lt_of_cell? w _ hx291_0)).trans hx291_0
         replace p291:=eq_true p291
         replace q291:=eq_true q291
         go_wp2
         go_roundg k1
         case measure=>have:=HK1.out;omega
         case rel=>exact ⟨(x3_1),(wrap64 (x9_1+1)),(by first|rfl|(simp;done)|(simp [*];done)),H',⟨by have:=HK1.out;omega⟩,⟨by (with_reducible repeat (first|apply Kd.R_alloc|apply Kd.R_drewN|apply Kd.R_drew));exact HO_3.out⟩,⟨by repeat (first|(with_reducible first|exact HB.out|apply below_alloc|apply pw_below_drewN|apply below_drew1)|exact HB.out)⟩⟩
        ·rw [if_neg c9] at H
         have c9b0:((rd l0 x9_1)==8203)=false:=beq_eq_false_iff_ne.mpr c9
         have c9b1:((rd l0 x9_1) != 8203)=true:=bne_iff_ne.mpr c9
         by_cases c10:(rd l0 x9_1)=8205
         ·rw [if_pos c10] at H
          have c10b0:((rd l0 x9_1)==8205)=true:=beq_iff_eq.mpr c10
          have c10b1:((rd l0 x9_1) != 8205)=false:=bne_eq_false_iff_eq.mpr c10
          clear c10
          have H':=Aside0.mk H
          clear H
          have p291:0≤(x9_1:Int):=of_decide_eq_true (by first|(with_reducible assumption)|assumption)
          have q291:x9_1<(l0.length:Int):=of_decide_eq_true (by first|(with_reducible assumption)|assumption)
          obtain ⟨ad291,e291,hx291_0⟩:=Kd.at_int HR0.out x9_1 p291 q291
          cases e291
          replace hx291_0:=(HB.out.cell (World.block_lt_of_cell? w _ hx291_0)).trans hx291_0
          replace p291:=eq_true p291
          replace q291:=eq_true q291
          go_wp2
          go_roundg k1
          case measure=>have:=HK1.out;omega
          case rel=>exact ⟨(x3_1),(wrap64 (x9_1+1)),(by first|rfl|(simp;done)|(simp [*];done)),H',⟨by have:=HK1.out;omega⟩,⟨by (with_reducible repeat (first|apply Kd.R_alloc|apply Kd.R_drewN|apply Kd.R_drew));exact HO_3.out⟩,⟨by repeat (first|(with_reducible first|exact HB.out|apply below_alloc|apply pw_below_drewN|apply below_drew1)|exact HB.out)⟩⟩
         ·rw [if_neg c10] at H
          have c10b0:((rd l0 x9_1)==8205)=false:=beq_eq_false_iff_ne.mpr c10
          have c10b1:((rd l0 x9_1) != 8205)=true:=bne_iff_ne.mpr c10
          by_cases c11:(rd l0 x9_1)=8206
          ·rw [if_pos c11] at H
           have c11b0:((rd l0 x9_1)==8206)=true:=beq_iff_eq.mpr c11
           have c11b1:((rd l0 x9_1) != 8206)=false:=bne_eq_false_iff_eq.mpr c11
           clear c11
           have H':=Aside0.mk H
           clear H
           have p291:0≤(x9_1:Int):=of_decide_eq_true (by first|(with_reducible assumption)|assumption)
           have q291:x9_1<(l0.length:Int):=of_decide_eq_true (by first|(with_reducible assumption)|assumption)
           obtain ⟨ad291,e291,hx291_0⟩:=Kd.at_int HR0.out x9_1 p291 q291
           cases e291
           replace hx291_0:=(HB.out.cell (World.block_lt_of_cell? w _ hx291_0)).trans hx291_0
           replace p291:=eq_true p291
           replace q291:=eq_true q291
           go_wp2
           go_roundg k1
           case measure=>have:=HK1.out;omega
           case rel=>exact ⟨(x3_1),(wrap64 (x9_1+1)),(by first|rfl|(simp;done)|(simp [*];done)),H',⟨by have:=HK1.out;omega⟩,⟨by (with_reducible repeat (first|apply Kd.R_alloc|apply Kd.R_drewN|apply Kd.R_drew));exact HO_3.out⟩,⟨by repeat (first|(with_reducible first|exact HB.out|apply below_alloc|apply pw_below_drewN|apply below_drew1)|exact HB.out)⟩⟩
          ·rw [if_neg c11] at H
           have c11b0:((rd l0 x9_1)==8206)=false:=beq_eq_false_iff_ne.mpr c11
           have c11b1:((rd l0 x9_1) != 8206)=true:=bne_iff_ne.mpr c11
           by_cases c12:(rd l0 x9_1)=8207
           ·rw [if_pos c12] at H
            have c12b0:((rd l0 x9_1)==8207)=true:=beq_iff_eq.mpr c12
            have c12b1:((rd l0 x9_1) != 8207)=false:=bne_eq_false_iff_eq.mpr c12
            clear c12
            have H':=Aside0.mk H
            clear H
            have p291:0≤(x9_1:Int):=of_decide_eq_true (by first|(with_reducible assumption)|assumption)
            have q291:x9_1<(l0.length:Int):=of_decide_eq_true (by first|(with_reducible assumption)|assumption)
            obtain ⟨ad291,e291,hx291_0⟩:=Kd.at_int HR0.out x9_1 p291 q291
            cases e291
            replace hx291_0:=(HB.out.cell (World.block_lt_of_cell? w _ hx291_0)).trans hx291_0
            replace p291:=eq_true p291
            replace q291:=eq_true q291
            go_wp2
            go_roundg k1
            case measure=>have:=HK1.out;omega
            case rel=>exact ⟨(x3_1),(wrap64 (x9_1+1)),(by first|rfl|(simp;done)|(simp [*];done)),H',⟨by have:=HK1.out;omega⟩,⟨by (with_reducible repeat (first|apply Kd.R_alloc|apply Kd.R_drewN|apply Kd.R_drew));exact HO_3.out⟩,⟨by repeat (first|(with_reducible first|exact HB.out|apply below_alloc|apply pw_below_drewN|apply below_drew1)|exact HB.out)⟩⟩
           ·rw [if_neg c12] at H
            have c12b0:((rd l0 x9_1)==8207)=false:=beq_eq_false_iff_ne.mpr c12
            have c12b1:((rd l0 x9_1) != 8207)=true:=bne_iff_ne.mpr c12
            by_cases c13:x3_1.length<17592186044416
            ·rw [if_pos c13] at H
             have LMc13:=Aside0.mk c13
             clear c13
             obtain ⟨y292,hy292⟩:∃ y_:List Int,y_=(x3_1++[rd l0 x9_1]):=⟨_,rfl⟩
             replace H:(impl_seenPoints.l0 k1 y292 l0 (l0.length:Int) (wrap64 (x9_1+1)))=some r:=by first|(rw [hy292];with_reducible exact H)|(have H2_:=(Option.bind_some _ _).symm.trans H;rw [hy292];with_reducible exact H2_)|(have H2_:=(Option.bind_some _ _).symm.trans H;with_reducible exact H2_)|with_reducible exact H|(rw [hy292];exact H)|exact H
             have Ny292:=Aside0.mk hy292
             clear hy292
             have H':=Aside0.mk H
             clear H
             have p291:0≤(x9_1:Int):=of_decide_eq_true (by first|(with_reducible assumption)|assumption)
             have q291:x9_1<(l0.length:Int):=of_decide_eq_true (by first|(with_reducible assumption)|assumption)
             obtain ⟨ad291,e291,hx291_0⟩:=Kd.at_int HR0.out x9_1 p291 q291
             cases e291
             replace hx291_0:=(HB.out.cell (World.block_lt_of_cell? w _ hx291_0)).trans hx291_0
             replace p291:=eq_true p291
             replace q291:=eq_true q291
             go_wp2_with (first|((with_reducible refine gate_builtin (b:=.append) (xs:=#[.tmp 14,.tmp 16]) rfl ?_);at_builtin;refine Kd.R_append (Kd.int .i64) (w0:=w) w.heap.size rfl (.tmp 14) (.tmp 16) 27 3 (.int .i64 0) 8 rfl Try.underlying27 info3 rfl (by decide) (by omega) u3 x3_1 (rd l0 x9_1) [.int .i64 (rd l0 x9_1)] (fun _=>True) (fun _=>False) rfl rfl ?aP (fun _ hk=>hk.elim) ?aF ?aO ?aB ?aS ?aL ?_;(case aP=>exact rfl);(case aB=>exact (by repeat (first|(with_reducible first|exact HB.out|apply below_alloc|apply pw_below_drewN|apply below_drew1)|exact HB.out)));(case aF=>exact (fun _ _=>trivial));(case aO=>exact (by (with_reducible repeat (first|apply Kd.R_alloc|apply Kd.R_drewN|apply Kd.R_drew));exact HO_3.out));(case aS=>exact (below_size (by repeat (first|(with_reducible first|exact HB.out|apply below_alloc|apply pw_below_drewN|apply below_drew1)|exact HB.out))));(case aL=>have:=LMc13.out;omega);intro v293 w14 ho hb hg hat;rw [← Ny292.out] at ho;have n0_:=Aside0.mk (hb);have n1_:=Aside0.mk (ho);clear HB;clear HO_3;have HB:=n0_;have HO294:=n1_;clear n0_ n1_;clear ho hb hg hat))
             go_roundg k1
             case measure=>have:=HK1.out;omega
             case rel=>exact ⟨(y292),(wrap64 (x9_1+1)),(by first|rfl|(simp;done)|(simp [*];done)),H',⟨by have:=HK1.out;omega⟩,⟨by (with_reducible repeat (first|apply Kd.R_alloc|apply Kd.R_drewN|apply Kd.R_drew));exact HO294.out⟩,⟨by repeat (first|(with_reducible first|exact HB.out|apply below_alloc|apply pw_below_drewN|apply below_drew1)|exact HB.out)⟩⟩
            ·rw [if_neg c13] at H
             exact absurd H (by simp)
     ·rw [if_neg c6] at H
      exact absurd H (by simp)
    ·rw [if_neg c5] at H
     exact absurd H (by simp)
   ·rw [if_neg c4] at H
    have c4b0:decide (x9_1<(l0.length:Int))=false:=decide_eq_false c4
    clear c4
    obtain rfl:=Option.some.inj H
    go_wp2
    go_ret
    exact ⟨_,by first|rfl|(simp [errW_none,errW_some]<;>rfl)|(simp [*,errW_none,errW_some]<;>rfl),by (with_reducible repeat (first|apply Kd.R_alloc|apply Kd.R_drewN|apply Kd.R_drew));exact HO_3.out,by repeat (first|(with_reducible first|exact HB.out|apply below_alloc|apply pw_below_drewN|apply below_drew1)|exact HB.out)⟩
/-! ### impl_clamp: function 72 -/
def impl_clamp.f (a0:Int) (a1:Int) (a2:Int):Option (Int):=some (mx a1 (mn a0 a2))
set_option maxHeartbeats 8000000 in
set_option maxRecDepth 100000 in
theorem impl_clamp.calls (a0:Int) (a1:Int) (a2:Int) (r:Int) (w:World) (h:impl_clamp.f a0 a1 a2=some r) :
  Calls Try.prog 72 #[.int .i64 a0,.int .i64 a1,.int .i64 a2] w fun e w'=>e=.returned (.int .i64 r)∧Below w.heap.size w w':=by
 have HB:=Aside0.mk (Below.refl w.heap.size w)
 have H:(some (mx a1 (mn a0 a2)))=some r:=h
 clear h
 obtain ⟨ji4,hji4⟩:∃ j_:Int,(mn a0 a2)=j_:=⟨_,rfl⟩
 replace H:(some (mx a1 (ji4)))=some r:=by first|(rw [hji4] at H;exact H)|(simp only [hji4] at H ⊢;exact H)
 have hji4_:(if a2<a0 then a2 else a0)=ji4:=hji4
 obtain ⟨ji5,hji5⟩:∃ j_:Int,(mx a1 (ji4))=j_:=⟨_,rfl⟩
 replace H:(some ji5)=some r:=by first|(rw [hji5] at H;exact H)|(simp only [hji5] at H ⊢;exact H)
 have hji5_:(if a1<(ji4) then (ji4) else a1)=ji5:=hji5
 obtain rfl:=Option.some.inj H
 go_enter Try.func72,Try.ntmps72
 go_wp2
 go_ret
 exact ⟨by first|rfl|(simp [errW_none,errW_some]<;>rfl)|(simp only [← hji4,← hji5];first|rfl|(simp [errW_none,errW_some]<;>rfl))|(simp [*,errW_none,errW_some]<;>rfl),by repeat (first|(with_reducible first|exact HB.out|apply below_alloc|apply pw_below_drewN|apply below_drew1)|exact HB.out)⟩
end Go.Proofs.Ytiinihponcojkaa.QFnExactAdvance
