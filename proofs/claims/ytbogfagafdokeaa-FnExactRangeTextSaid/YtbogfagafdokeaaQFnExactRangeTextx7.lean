import Derived.Test.YtbogfagafdokeaaQFnExactRangeTextx0
import Derived.Test.YtbogfagafdokeaaQFnExactRangeTextx3
namespace Go.Proofs.Ytbogfagafdokeaa.QFnExactRangeText
open Go.RowKit Go.Proofs.YtbogfagafdokeaaV.PrintWords Go.Proofs.YtbogfagafdokeaaV.PrintLast Go.Proofs.YtbogfagafdokeaaV.PrintMore
attribute [local go_sem] max2_int min2_int max_two min_two max_three min_three max_four min_four
set_option linter.unusedVariables false
set_option linter.unusedSimpArgs false
theorem own_map7 (A:Option Addr) (n c:Nat):(Value.slice A n c).ownBlock=A.map (fun a=>a.block):=by cases A<;>rfl
/-! ### spec_l4Parents: function 41 -/
mutual
def spec_l4Parents.l0:Nat→List (S59)→List Int→List Int→List Int→Int→Option (List Int)
  |0,_,_,_,_,_=>none
  |k+1,x0,x3,x4,x5,x6=>if x6<(x0.length:Int) then (if 0≤x6 then (if x6<(x3.length:Int) then ((some (x3.set (x6:Int).toNat (-1):List Int)).bind fun y208=>(if (x4.length:Int) > 0 then (if 0≤(wrap64 ((x4.length:Int) - 1)) then (if (wrap64 ((x4.length:Int) - 1))<(x4.length:Int) then (if 0≤(wrap64 ((x5.length:Int) - 1)) then (if (wrap64 ((x5.length:Int) - 1))<(x5.length:Int) then (spec_l4Parents.j1 k x0 (y208.set (x6:Int).toNat (rd x4 (wrap64 ((x4.length:Int) - 1)))) x4 (x5.set ((wrap64 ((x5.length:Int) - 1)):Int).toNat (wrap64 ((rd x5 (wrap64 ((x5.length:Int) - 1))) - 1))) x6) else (none)) else (none)) else (none)) else (none)) else (spec_l4Parents.j1 k x0 y208 x4 x5 x6))) else (none)) else (none)) else (some x3)
def spec_l4Parents.j1:Nat→List (S59)→List Int→List Int→List Int→Int→Option (List Int)
  |0,_,_,_,_,_=>none
  |k+1,x0,x3,x4,x5,x6=>if x4.length<17592186044416 then (if 0≤x6 then (if x6<(x0.length:Int) then (if x5.length<17592186044416 then (spec_l4Parents.l1 k x0 x3 (x4++[x6]) (x5++[(rd_T59 x0 x6).f5]) x6) else (none)) else (none)) else (none)) else (none)
def spec_l4Parents.l1:Nat→List (S59)→List Int→List Int→List Int→Int→Option (List Int)
  |0,_,_,_,_,_=>none
  |k+1,x0,x3,x4,x5,x6=>if (x5.length:Int) > 0 then (if 0≤(wrap64 ((x5.length:Int) - 1)) then (if (wrap64 ((x5.length:Int) - 1))<(x5.length:Int) then (if (rd x5 (wrap64 ((x5.length:Int) - 1)))=0 then (if 0≤(wrap64 ((x4.length:Int) - 1)) then (if (wrap64 ((x4.length:Int) - 1))≤(x4.length:Int) then (if (wrap64 ((x5.length:Int) - 1))≤(x5.length:Int) then (spec_l4Parents.l1 k x0 x3 (x4.take ((wrap64 ((x4.length:Int) - 1)):Int).toNat) (x5.take ((wrap64 ((x5.length:Int) - 1)):Int).toNat) x6) else (none)) else (none)) else (none)) else (spec_l4Parents.l0 k x0 x3 x4 x5 (wrap64 (x6+1)))) else (none)) else (none)) else (spec_l4Parents.l0 k x0 x3 x4 x5 (wrap64 (x6+1)))
end
def spec_l4Parents.f (k:Nat) (l0:List (S59)):Option (List Int):=if 0≤(l0.length:Int) then (if ((l0.length:Int):Int).toNat≤35184372088832 then (spec_l4Parents.l0 k l0 (List.replicate ((l0.length:Int):Int).toNat 0) (([]:List Int)) (([]:List Int)) 0) else (none)) else (none)
theorem spec_l4Parents.mono_l:∀ k,(∀ y0 y1 y2 y3 y4,LeO (spec_l4Parents.l0 k y0 y1 y2 y3 y4) (spec_l4Parents.l0 (k+1) y0 y1 y2 y3 y4))∧(∀ y0 y1 y2 y3 y4,LeO (spec_l4Parents.j1 k y0 y1 y2 y3 y4) (spec_l4Parents.j1 (k+1) y0 y1 y2 y3 y4))∧(∀ y0 y1 y2 y3 y4,LeO (spec_l4Parents.l1 k y0 y1 y2 y3 y4) (spec_l4Parents.l1 (k+1) y0 y1 y2 y3 y4))
 |0=>⟨fun _ _ _ _ _ r h=>by simp [spec_l4Parents.l0] at h,fun _ _ _ _ _ r h=>by simp [spec_l4Parents.j1] at h,fun _ _ _ _ _ r h=>by simp [spec_l4Parents.l1] at h⟩
 |k+1=>by
  obtain ⟨ih0,ih1,ih2⟩:=spec_l4Parents.mono_l k
  refine ⟨?_,?_,?_⟩
  ·intro y0 y1 y2 y3 y4
   unfold spec_l4Parents.l0
   repeat' first
  |(with_reducible exact ih0 _ _ _ _ _)
  |(with_reducible exact ih1 _ _ _ _ _)
  |(with_reducible exact ih2 _ _ _ _ _)
  |(with_reducible exact LeO.refl _)
  |(with_reducible exact LeO.none _)
  |(with_reducible refine LeO.ite ?_ ?_)
  |(with_reducible refine LeO.bind ?_ (fun _=>?_))
  |exact ih0 _ _ _ _ _
  |exact ih1 _ _ _ _ _
  |exact ih2 _ _ _ _ _
  |exact LeO.none _
  |refine LeO.ite ?_ ?_
  |refine LeO.bind ?_ (fun _=>?_)
  ·intro y0 y1 y2 y3 y4
   unfold spec_l4Parents.j1
   repeat' first
  |(with_reducible exact ih0 _ _ _ _ _)
  |(with_reducible exact ih1 _ _ _ _ _)
  |(with_reducible exact ih2 _ _ _ _ _)
  |(with_reducible exact LeO.refl _)
  |(with_reducible exact LeO.none _)
  |(with_reducible refine LeO.ite ?_ ?_)
  |(with_reducible refine LeO.bind ?_ (fun _=>?_))
  |exact ih0 _ _ _ _ _
  |exact ih1 _ _ _ _ _
  |exact ih2 _ _ _ _ _
  |exact LeO.none _
  |refine LeO.ite ?_ ?_
  |refine LeO.bind ?_ (fun _=>?_)
  ·intro y0 y1 y2 y3 y4
   unfold spec_l4Parents.l1
   repeat' first
  |(with_reducible exact ih0 _ _ _ _ _)
  |(with_reducible exact ih1 _ _ _ _ _)
  |(with_reducible exact ih2 _ _ _ _ _)
  |(with_reducible exact LeO.refl _)
  |(with_reducible exact LeO.none _)
  |(with_reducible refine LeO.ite ?_ ?_)
  |(with_reducible refine LeO.bind ?_ (fun _=>?_))
  |exact ih0 _ _ _ _ _
  |exact ih1 _ _ _ _ _
  |exact ih2 _ _ _ _ _
  |exact LeO.none _
  |refine LeO.ite ?_ ?_
  |refine LeO.bind ?_ (fun _=>?_)
theorem spec_l4Parents.mono:∀ a0 k,LeO (spec_l4Parents.f k a0) (spec_l4Parents.f (k+1) a0):=by
 intro a0 k
 obtain ⟨ih0,ih1,ih2⟩:=spec_l4Parents.mono_l k
 unfold spec_l4Parents.f
 repeat' first
  |(with_reducible exact ih0 _ _ _ _ _)
  |(with_reducible exact ih1 _ _ _ _ _)
  |(with_reducible exact ih2 _ _ _ _ _)
  |(with_reducible exact LeO.refl _)
  |(with_reducible exact LeO.none _)
  |(with_reducible refine LeO.ite ?_ ?_)
  |(with_reducible refine LeO.bind ?_ (fun _=>?_))
  |exact ih0 _ _ _ _ _
  |exact ih1 _ _ _ _ _
  |exact ih2 _ _ _ _ _
  |exact LeO.none _
  |refine LeO.ite ?_ ?_
  |refine LeO.bind ?_ (fun _=>?_)
set_option maxHeartbeats 8000000 in
set_option maxRecDepth 100000 in
theorem spec_l4Parents.calls (k:Nat) (A0:Option Addr) (c0:Nat) (l0:List (S59)) (r:List Int) (w:World) (hr0:Kd.C k59 w A0 l0.length l0) (hc0:l0.length≤c0) (h:spec_l4Parents.f k l0=some r) :
  Calls Try.prog 41 #[.slice A0 l0.length c0] w fun e w'=>∃ v0_:Value,e=.returned (v0_)∧Kd.R (Kd.int .i64) 3 w' w.heap.size (fun _=>True) v0_ r∧Below w.heap.size w w':=by
 have HR0:=Aside0.mk hr0
 have HC0:=Aside0.mk hc0
 clear hr0 hc0
 have HB:=Aside0.mk (Below.refl w.heap.size w)
 have H:(if 0≤(l0.length:Int) then (if ((l0.length:Int):Int).toNat≤35184372088832 then (spec_l4Parents.l0 k l0 (List.replicate ((l0.length:Int):Int).toNat 0) (([]:List Int)) (([]:List Int)) 0) else (none)) else (none))=some r:=h
 clear h
 by_cases c2:0≤(l0.length:Int)
 ·rw [if_pos c2] at H
  have c2b0:=eq_true c2
  have c2b1:decide (0≤(l0.length:Int))=true:=decide_eq_true c2
  clear c2
  by_cases c3:((l0.length:Int):Int).toNat≤35184372088832
  ·rw [if_pos c3] at H
   have c3b0:=eq_true c3
   have c3b1:decide (((l0.length:Int):Int).toNat≤35184372088832)=true:=decide_eq_true c3
   clear c3
   obtain ⟨y199,hy199⟩:∃ y_:List Int,y_=(List.replicate ((l0.length:Int):Int).toNat 0):=⟨_,rfl⟩
   replace H:(spec_l4Parents.l0 k l0 y199 (([]:List Int)) (([]:List Int)) 0)=some r:=by first|(rw [hy199];with_reducible exact H)|(have H2_:=(Option.bind_some _ _).symm.trans H;rw [hy199];with_reducible exact H2_)|(have H2_:=(Option.bind_some _ _).symm.trans H;with_reducible exact H2_)|with_reducible exact H|(rw [hy199];exact H)|exact H
   have Ny199:=Aside0.mk hy199
   clear hy199
   obtain ⟨y202,hy202⟩:∃ y_:List Int,y_=(([]:List Int)):=⟨_,rfl⟩
   replace H:(spec_l4Parents.l0 k l0 y199 y202 (([]:List Int)) 0)=some r:=by first|(rw [hy202];with_reducible exact H)|(have H2_:=(Option.bind_some _ _).symm.trans H;rw [hy202];with_reducible exact H2_)|(have H2_:=(Option.bind_some _ _).symm.trans H;with_reducible exact H2_)|with_reducible exact H|(rw [hy202];exact H)|exact H
   have Ny202:=Aside0.mk hy202
   clear hy202
   obtain ⟨y205,hy205⟩:∃ y_:List Int,y_=(([]:List Int)):=⟨_,rfl⟩
   replace H:(spec_l4Parents.l0 k l0 y199 y202 y205 0)=some r:=by first|(rw [hy205];with_reducible exact H)|(have H2_:=(Option.bind_some _ _).symm.trans H;rw [hy205];with_reducible exact H2_)|(have H2_:=(Option.bind_some _ _).symm.trans H;with_reducible exact H2_)|with_reducible exact H|(rw [hy205];exact H)|exact H
   have Ny205:=Aside0.mk hy205
   clear hy205
   have H':=Aside0.mk H
   clear H
   go_enter Try.func41,Try.ntmps41
   go_wp2_with (first|((with_reducible refine gate_dst (N:=9) rfl ?_);(try (refine gate_guard (by rfl) ?_;dsimp only));refine Kd.R_make (Kd.int .i64) _ 3 rfl (N:=9) rfl 67 _ _ rfl (l0.length:Int) rfl rfl Try.underlying67 (.int .i64 0) 8 info3 rfl (by decide) (by omega) 0 (ok:=fun _=>True) (okp:=fun _=>True) rfl (fun _ hk=>hk) trivial (of_decide_eq_true (by first|(with_reducible assumption)|assumption)) (Nat.le_trans (Nat.mul_le_mul_right _ (of_decide_eq_true (by first|(with_reducible assumption)|assumption):(l0.length:Int).toNat≤35184372088832)) (by omega)) (Below.refl _ _) (Nat.le_refl _) ?_;intro v200 w4 ho5 hb hg_ hnew_;clear hg_ hnew_;(first|rw [← Ny199.out] at ho5|(simp only [Int.reduceToNat] at ho5;rw [← Ny199.out] at ho5));have n0_:=Aside0.mk (Kd.R_lower ho5 (below_size (by repeat (first|exact HB.out|apply below_alloc|apply pw_below_drewN|apply below_drew1))));have n1_:=Aside0.mk (below_step (by repeat (first|exact HB.out|apply below_alloc|apply pw_below_drewN|apply below_drew1)) hb);clear HB;have HO201:=n0_;have HB:=n1_;clear n0_ n1_;clear hb ho5)|((with_reducible refine gate_dst (N:=10) rfl ?_);(try (refine gate_guard (by rfl) ?_;dsimp only));refine Kd.R_lit (Kd.int .i64) _ 3 ?hg (N:=10) ?hd (xs:=([]:List Int)) (inner:=[]) (ok:=fun _=>True) (okp:=fun _=>True) ?hr ?hp (fun _ hk=>hk) trivial (Below.refl _ _) (Nat.le_refl _) (by simp) ?_;(case hd=>rfl);(case hg=>rfl);(case hr=>first|(go_simp;done)|(go_simp;rfl));(case hp=>exact (Reps.none _ _));intro v203 w6 ho7 hb hg_ hnew_;clear hg_ hnew_;(first|rw [← Ny202.out] at ho7|(simp only [Int.reduceToNat] at ho7;rw [← Ny202.out] at ho7));have n0_:=Aside0.mk (Kd.R_elder' (by (with_reducible repeat (first|apply Kd.R_alloc|apply Kd.R_drewN|apply Kd.R_drew));exact HO201.out) (Kd.R_base ho7) hb);have n1_:=Aside0.mk (Kd.R_lower (Kd.R_new' ho7 (Kd.R_lt (by (with_reducible repeat (first|apply Kd.R_alloc|apply Kd.R_drewN|apply Kd.R_drew));exact HO201.out))) (below_size (by repeat (first|exact HB.out|apply below_alloc|apply pw_below_drewN|apply below_drew1))));have n2_:=Aside0.mk (below_step (by repeat (first|exact HB.out|apply below_alloc|apply pw_below_drewN|apply below_drew1)) hb);clear HO201;clear HB;have HO201:=n0_;have HO204:=n1_;have HB:=n2_;clear n0_ n1_ n2_;clear hb ho7)|((with_reducible refine gate_dst (N:=11) rfl ?_);(try (refine gate_guard (by rfl) ?_;dsimp only));refine Kd.R_lit (Kd.int .i64) _ 3 ?hg (N:=11) ?hd (xs:=([]:List Int)) (inner:=[]) (ok:=fun _=>True) (okp:=fun _=>True) ?hr ?hp (fun _ hk=>hk) trivial (Below.refl _ _) (Nat.le_refl _) (by simp) ?_;(case hd=>rfl);(case hg=>rfl);(case hr=>first|(go_simp;done)|(go_simp;rfl));(case hp=>exact (Reps.none _ _));intro v206 w8 ho9 hb hg_ hnew_;clear hg_ hnew_;(first|rw [← Ny205.out] at ho9|(simp only [Int.reduceToNat] at ho9;rw [← Ny205.out] at ho9));have n0_:=Aside0.mk (Kd.R_elder' (by (with_reducible repeat (first|apply Kd.R_alloc|apply Kd.R_drewN|apply Kd.R_drew));exact HO201.out) (Kd.R_base ho9) hb);have n1_:=Aside0.mk (Kd.R_elder' (by (with_reducible repeat (first|apply Kd.R_alloc|apply Kd.R_drewN|apply Kd.R_drew));exact HO204.out) (Kd.R_base ho9) hb);have n2_:=Aside0.mk (Kd.R_lower (Kd.R_new' (Kd.R_new' ho9 (Kd.R_lt (by (with_reducible repeat (first|apply Kd.R_alloc|apply Kd.R_drewN|apply Kd.R_drew));exact HO201.out))) (Kd.R_lt (by (with_reducible repeat (first|apply Kd.R_alloc|apply Kd.R_drewN|apply Kd.R_drew));exact HO204.out))) (below_size (by repeat (first|exact HB.out|apply below_alloc|apply pw_below_drewN|apply below_drew1))));have n3_:=Aside0.mk (below_step (by repeat (first|exact HB.out|apply below_alloc|apply pw_below_drewN|apply below_drew1)) hb);clear HO201;clear HO204;clear HB;have HO201:=n0_;have HO204:=n1_;have HO207:=n2_;have HB:=n3_;clear n0_ n1_ n2_ n3_;clear hb ho9))
   go_loopg [4,5,6] k (fun kq v4 v5 v6 w'=>∃ (x3_1:List Int) (x4_1:List Int) (x5_1:List Int) (x6_1:Int),v6=.int .i64 x6_1∧Aside0 (spec_l4Parents.l0 kq l0 x3_1 x4_1 x5_1 x6_1=some r)∧Aside0 (kq≤k)∧Aside0 (Kd.R (Kd.int .i64) 3 w' w.heap.size (fun k_=>some k_≠(v4:Value).ownBlock∧some k_≠(v5:Value).ownBlock) v200 x3_1)∧Aside0 (Kd.R (Kd.int .i64) 3 w' w.heap.size (fun k_=>some k_≠(v200:Value).ownBlock∧some k_≠(v5:Value).ownBlock) v4 x4_1)∧Aside0 (Kd.R (Kd.int .i64) 3 w' w.heap.size (fun k_=>some k_≠(v200:Value).ownBlock∧some k_≠(v4:Value).ownBlock) v5 x5_1)∧Aside0 (Below w.heap.size w w'))
   case atStart=>exact ⟨(y199),(y202),(y205),(0),(by first|rfl|(simp;done)|(simp [*];done)),H',⟨Nat.le_refl _⟩,⟨by (with_reducible repeat (first|apply Kd.R_alloc|apply Kd.R_drewN|apply Kd.R_drew));exact Kd.R_mono HO201.out (fun _ hk=>⟨hk.1.2,hk.2⟩)⟩,⟨by (with_reducible repeat (first|apply Kd.R_alloc|apply Kd.R_drewN|apply Kd.R_drew));exact Kd.R_mono HO204.out (fun _ hk=>⟨hk.1.2,hk.2⟩)⟩,⟨by (with_reducible repeat (first|apply Kd.R_alloc|apply Kd.R_drewN|apply Kd.R_drew));exact Kd.R_mono HO207.out (fun _ hk=>⟨hk.1.2,hk.2⟩)⟩,⟨by repeat (first|exact HB.out|apply below_alloc|apply pw_below_drewN|apply below_drew1)⟩⟩
   case round=>
    clear H'
    try clear c2;try clear c2b0;try clear c2b1;try clear c3;try clear c3b0;try clear c3b1
    obtain ⟨x3_1,x4_1,x5_1,x6_1,rfl,HA,HK1,HO_3,HO_4,HO_5,HB⟩:=hrel
    cases gk with
   |zero=>exact absurd HA.out (by simp [spec_l4Parents.l0])
   |succ k1=>
     have H:=HA.out
     clear HA
     simp only [spec_l4Parents.l0] at H
     by_cases c10:x6_1<(l0.length:Int)
     ·rw [if_pos c10] at H
      have c10b0:decide (x6_1<(l0.length:Int))=true:=decide_eq_true c10
      clear c10
      by_cases c11:0≤x6_1
      ·rw [if_pos c11] at H
       have c11b0:decide (0≤x6_1)=true:=decide_eq_true c11
       clear c11
       by_cases c12:x6_1<(x3_1.length:Int)
       ·rw [if_pos c12] at H
        have c12b0:decide (x6_1<(x3_1.length:Int))=true:=decide_eq_true c12
        clear c12
        obtain ⟨y208,hy208⟩:∃ y_:List Int,y_=(x3_1.set (x6_1:Int).toNat (-1)):=⟨_,rfl⟩
        replace H:(if (x4_1.length:Int) > 0 then (if 0≤(wrap64 ((x4_1.length:Int) - 1)) then (if (wrap64 ((x4_1.length:Int) - 1))<(x4_1.length:Int) then (if 0≤(wrap64 ((x5_1.length:Int) - 1)) then (if (wrap64 ((x5_1.length:Int) - 1))<(x5_1.length:Int) then (spec_l4Parents.j1 k1 l0 (y208.set (x6_1:Int).toNat (rd x4_1 (wrap64 ((x4_1.length:Int) - 1)))) x4_1 (x5_1.set ((wrap64 ((x5_1.length:Int) - 1)):Int).toNat (wrap64 ((rd x5_1 (wrap64 ((x5_1.length:Int) - 1))) - 1))) x6_1) else (none)) else (none)) else (none)) else (none)) else (spec_l4Parents.j1 k1 l0 y208 x4_1 x5_1 x6_1))=some r:=by first|(rw [hy208];with_reducible exact H)|(have H2_:=(Option.bind_some _ _).symm.trans H;rw [hy208];with_reducible exact H2_)|(have H2_:=(Option.bind_some _ _).symm.trans H;with_reducible exact H2_)|with_reducible exact H|(rw [hy208];exact H)|exact H
        have Ny208:=Aside0.mk hy208
        clear hy208
        have HC14:=Aside0.mk H
        clear H
        have p13:0≤(x6_1:Int):=of_decide_eq_true (by first|(with_reducible assumption)|assumption)
        have q13:(x6_1:Int)<((x3_1.length:Int):Int):=of_decide_eq_true (by first|(with_reducible assumption)|assumption)
        obtain ⟨go13,co13,eo13,gb13,gl13,cl13,HG13⟩:=Kd.R_form HO_3.out (by omega)
        (first|cases eo13|(injection eo13 with ea_ en_ ec_;(first|subst ea_|(injection ea_ with ea_;subst ea_));subst ec_;clear en_))
        have GB13:=Aside0.mk gb13
        have GG13:=Aside0.mk HG13
        clear gb13 gl13 HG13
        obtain ⟨hx13_0,hf13_0⟩:=Kd.R_celln 0 HO_3.out (x6_1:Int) p13 q13
        replace p13:=eq_true p13
        replace q13:=eq_true q13
        have HP15:=Kd.R_putg HO_3.out (x6_1:Int) (-1)
        go_upto_if 23 with (first|((with_reducible refine gate_store (t:=3) (p:=20) rfl ?_);refine store_event (t:=3) (p:=20) (v:=?vo_w16) (w1:=(wr.setCell ⟨go13,(x6_1:Int).toNat,none⟩ (.int .i64 (-1)))) ?hg ?ho ?hn ?hr ?_;(case ho=>rfl);(case hg=>rfl);(case hn=>rfl);(case hr=>first|(go_simp;done)|(go_simp;rfl));intro w16 hw;have hg:wr.grownBy w16 (some go13):=(by rw [hw];exact HP15.2);have hp_:Kd.R (Kd.int .i64) 3 w16 w.heap.size (fun k_=>some k_≠(u4:Value).ownBlock∧some k_≠(u5:Value).ownBlock) (.slice (some ⟨go13,0,none⟩) x3_1.length co13) y208:=(by rw [hw,Ny208.out];exact HP15.1);clear HP15;have n0_:=Aside0.mk (hp_);have n1_:=Aside0.mk (Kd.R_after (v:=(.slice (some ⟨go13,0,none⟩) x3_1.length co13)) (v1:=(.slice (some ⟨go13,0,none⟩) x3_1.length co13)) (ok:=(fun k_=>some k_≠(u5:Value).ownBlock)) (by (with_reducible repeat (first|apply Kd.R_alloc|apply Kd.R_drewN|apply Kd.R_drew));exact Kd.R_mono HO_4.out (fun _ hk=>⟨hk.2,hk.1⟩)) hg (.inl rfl));have n2_:=Aside0.mk (Kd.R_after (v:=(.slice (some ⟨go13,0,none⟩) x3_1.length co13)) (v1:=(.slice (some ⟨go13,0,none⟩) x3_1.length co13)) (ok:=(fun k_=>some k_≠(u4:Value).ownBlock)) (by (with_reducible repeat (first|apply Kd.R_alloc|apply Kd.R_drewN|apply Kd.R_drew));exact Kd.R_mono HO_5.out (fun _ hk=>⟨hk.2,hk.1⟩)) hg (.inl rfl));have n3_:=Aside0.mk ((by rw [hw];exact below_set (HB.out) GB13.out:Below w.heap.size w w16));clear HO_3;clear HO_4;clear HO_5;clear HB;have HO_3:=n0_;have HO_4:=n1_;have HO_5:=n2_;have HB:=n3_;clear n0_ n1_ n2_ n3_;clear hg hw hp_;obtain ⟨Ao17,co17,eo17⟩:=Kd.R_slice HO_4.out;subst eo17))
        (try simp only [Act.put,List.setIfInBounds_toArray,List.set_cons_zero,List.set_cons_succ])
        go_cut [] (fun wc=>∃ (kq:Nat) (x3_13:List Int) (x5_13:List Int),Aside0 (spec_l4Parents.j1 kq l0 x3_13 x4_1 x5_13 x6_1=some r)∧Aside0 (kq≤k1)∧Aside0 (Kd.R (Kd.int .i64) 3 wc w.heap.size (fun k_=>some k_≠((.slice Ao17 x4_1.length co17):Value).ownBlock∧some k_≠(u5:Value).ownBlock) (.slice (some ⟨go13,0,none⟩) x3_1.length co13) x3_13)∧Aside0 (Kd.R (Kd.int .i64) 3 wc w.heap.size (fun k_=>some k_≠((.slice (some ⟨go13,0,none⟩) x3_1.length co13):Value).ownBlock∧some k_≠(u5:Value).ownBlock) (.slice Ao17 x4_1.length co17) x4_1)∧Aside0 (Kd.R (Kd.int .i64) 3 wc w.heap.size (fun k_=>some k_≠((.slice (some ⟨go13,0,none⟩) x3_1.length co13):Value).ownBlock∧some k_≠((.slice Ao17 x4_1.length co17):Value).ownBlock) u5 x5_13)∧Aside0 (Below w.heap.size w wc))
        case first=>
         have H:=HC14.out
         clear HC14
         by_cases c18:(x4_1.length:Int) > 0
         ·rw [if_pos c18] at H
          have c18b0:decide (0<(x4_1.length:Int))=true:=decide_eq_true c18
          have c18b1:decide (0<x4_1.length)=true:=decide_eq_true (by omega)
          clear c18
          (first|rw [c18b0]|(simp only [i64_w,i32_w];rw [c18b0])|rw [c18b1]|skip)
          obtain ⟨ji19,hji19⟩:∃ j_:Int,(wrap64 ((x4_1.length:Int) - 1))=j_:=⟨_,rfl⟩
          replace H:(if 0≤(ji19) then (if (ji19)<(x4_1.length:Int) then (if 0≤(wrap64 ((x5_1.length:Int) - 1)) then (if (wrap64 ((x5_1.length:Int) - 1))<(x5_1.length:Int) then (spec_l4Parents.j1 k1 l0 (y208.set (x6_1:Int).toNat (rd x4_1 (ji19))) x4_1 (x5_1.set ((wrap64 ((x5_1.length:Int) - 1)):Int).toNat (wrap64 ((rd x5_1 (wrap64 ((x5_1.length:Int) - 1))) - 1))) x6_1) else (none)) else (none)) else (none)) else (none))=some r:=by first|(rw [hji19] at H;exact H)|(simp only [hji19] at H ⊢;exact H)
          have hji19w:(IntKind.i64.wrap ((x4_1.length:Int) - 1))=ji19:=(i64_w _).trans hji19
          by_cases c20:0≤(ji19)
          ·rw [if_pos c20] at H
           have c20b0:decide (0≤(ji19))=true:=decide_eq_true c20
           clear c20
           by_cases c21:(ji19)<(x4_1.length:Int)
           ·rw [if_pos c21] at H
            have c21b0:decide ((ji19)<(x4_1.length:Int))=true:=decide_eq_true c21
            clear c21
            obtain ⟨y210,hy210⟩:∃ y_:List Int,y_=(y208.set (x6_1:Int).toNat (rd x4_1 (ji19))):=⟨_,rfl⟩
            replace H:(if 0≤(wrap64 ((x5_1.length:Int) - 1)) then (if (wrap64 ((x5_1.length:Int) - 1))<(x5_1.length:Int) then (spec_l4Parents.j1 k1 l0 y210 x4_1 (x5_1.set ((wrap64 ((x5_1.length:Int) - 1)):Int).toNat (wrap64 ((rd x5_1 (wrap64 ((x5_1.length:Int) - 1))) - 1))) x6_1) else (none)) else (none))=some r:=by first|(rw [hy210];with_reducible exact H)|(have H2_:=(Option.bind_some _ _).symm.trans H;rw [hy210];with_reducible exact H2_)|(have H2_:=(Option.bind_some _ _).symm.trans H;with_reducible exact H2_)|with_reducible exact H|(rw [hy210];exact H)|exact H
            have Ny210:=Aside0.mk hy210
            clear hy210
            obtain ⟨ji23,hji23⟩:∃ j_:Int,(wrap64 ((x5_1.length:Int) - 1))=j_:=⟨_,rfl⟩
            replace H:(if 0≤(ji23) then (if (ji23)<(x5_1.length:Int) then (spec_l4Parents.j1 k1 l0 y210 x4_1 (x5_1.set ((ji23):Int).toNat (wrap64 ((rd x5_1 (ji23)) - 1))) x6_1) else (none)) else (none))=some r:=by first|(rw [hji23] at H;exact H)|(simp only [hji23] at H ⊢;exact H)
            have hji23w:(IntKind.i64.wrap ((x5_1.length:Int) - 1))=ji23:=(i64_w _).trans hji23
            by_cases c24:0≤(ji23)
            ·rw [if_pos c24] at H
             have c24b0:decide (0≤(ji23))=true:=decide_eq_true c24
             clear c24
             by_cases c25:(ji23)<(x5_1.length:Int)
             ·rw [if_pos c25] at H
              have c25b0:decide ((ji23)<(x5_1.length:Int))=true:=decide_eq_true c25
              clear c25
              obtain ⟨y212,hy212⟩:∃ y_:List Int,y_=(x5_1.set ((ji23):Int).toNat (wrap64 ((rd x5_1 (ji23)) - 1))):=⟨_,rfl⟩
              replace H:(spec_l4Parents.j1 k1 l0 y210 x4_1 y212 x6_1)=some r:=by first|(rw [hy212];with_reducible exact H)|(have H2_:=(Option.bind_some _ _).symm.trans H;rw [hy212];with_reducible exact H2_)|(have H2_:=(Option.bind_some _ _).symm.trans H;with_reducible exact H2_)|with_reducible exact H|(rw [hy212];exact H)|exact H
              have Ny212:=Aside0.mk hy212
              clear hy212
              have H':=Aside0.mk H
              clear H
              have p209:0≤((ji19):Int):=of_decide_eq_true (by first|(with_reducible assumption)|assumption)
              have q209:(ji19)<(x4_1.length:Int):=of_decide_eq_true (by first|(with_reducible assumption)|assumption)
              obtain ⟨ad209,e209,hx209_0⟩:=Kd.at_int (Kd.R_reads' HO_4.out).2.2 (ji19) p209 q209
              cases e209
              replace p209:=eq_true p209
              replace q209:=eq_true q209
              have p22:0≤(x6_1:Int):=of_decide_eq_true (by first|(with_reducible assumption)|assumption)
              have q22:(x6_1:Int)<((x3_1.length:Int):Int):=of_decide_eq_true (by first|(with_reducible assumption)|assumption)
              obtain ⟨hx22_0,hf22_0⟩:=Kd.R_celln 0 HO_3.out (x6_1:Int) p22 q22
              replace p22:=eq_true p22
              replace q22:=eq_true q22
              have HP27:=Kd.R_putg HO_3.out (x6_1:Int) (rd x4_1 (ji19))
              go_wp2_with (first|((with_reducible refine gate_store (t:=3) (p:=32) rfl ?_);refine store_event (t:=3) (p:=32) (v:=?vo_w28) (w1:=(w16.setCell ⟨go13,(x6_1:Int).toNat,none⟩ (.int .i64 (rd x4_1 (ji19))))) ?hg ?ho ?hn ?hr ?_;(case ho=>rfl);(case hg=>rfl);(case hn=>rfl);(case hr=>first|(go_simp;done)|(go_simp;rfl));intro w28 hw;have hg:w16.grownBy w28 (some go13):=(by rw [hw];exact HP27.2);have hp_:Kd.R (Kd.int .i64) 3 w28 w.heap.size (fun k_=>some k_≠(.slice (some ad209) x4_1.length co17:Value).ownBlock∧some k_≠(u5:Value).ownBlock) (.slice (some ⟨go13,0,none⟩) x3_1.length co13) y210:=(by rw [hw,Ny210.out];exact HP27.1);clear HP27;have n0_:=Aside0.mk (hp_);have n1_:=Aside0.mk (Kd.R_after (v:=(.slice (some ⟨go13,0,none⟩) x3_1.length co13)) (v1:=(.slice (some ⟨go13,0,none⟩) x3_1.length co13)) (ok:=(fun k_=>some k_≠(u5:Value).ownBlock)) (by (with_reducible repeat (first|apply Kd.R_alloc|apply Kd.R_drewN|apply Kd.R_drew));exact HO_4.out) hg (.inl rfl));have n2_:=Aside0.mk (Kd.R_after (v:=(.slice (some ⟨go13,0,none⟩) x3_1.length co13)) (v1:=(.slice (some ⟨go13,0,none⟩) x3_1.length co13)) (ok:=(fun k_=>some k_≠(.slice (some ad209) x4_1.length co17:Value).ownBlock)) (by (with_reducible repeat (first|apply Kd.R_alloc|apply Kd.R_drewN|apply Kd.R_drew));exact HO_5.out) hg (.inl rfl));have n3_:=Aside0.mk ((by rw [hw];exact below_set (HB.out) GB13.out:Below w.heap.size w w28));clear HO_3;clear HO_4;clear HO_5;clear HB;have HO_3:=n0_;have HO_4:=n1_;have HO_5:=n2_;have HB:=n3_;clear n0_ n1_ n2_ n3_;clear hg hw hp_;obtain ⟨Ao29,co29,eo29⟩:=Kd.R_slice HO_5.out;subst eo29;have p211:0≤((ji23):Int):=of_decide_eq_true (by first|(with_reducible assumption)|assumption);have q211:(ji23)<(x5_1.length:Int):=of_decide_eq_true (by first|(with_reducible assumption)|assumption);obtain ⟨ad211,e211,hx211_0⟩:=Kd.at_int (Kd.R_reads' HO_5.out).2.2 (ji23) p211 q211;cases e211;replace p211:=eq_true p211;replace q211:=eq_true q211;have p26:0≤((ji23):Int):=of_decide_eq_true (by first|(with_reducible assumption)|assumption);have q26:((ji23):Int)<((x5_1.length:Int):Int):=of_decide_eq_true (by first|(with_reducible assumption)|assumption);obtain ⟨go26,co26,eo26,gb26,gl26,cl26,HG26⟩:=Kd.R_form HO_5.out (by omega);(first|cases eo26|(injection eo26 with ea_ en_ ec_;(first|subst ea_|(injection ea_ with ea_;subst ea_));subst ec_;clear en_));have GB26:=Aside0.mk gb26;have GG26:=Aside0.mk HG26;clear gb26 gl26 HG26;(first|simp only [add_plain] at hx211_0|skip);obtain ⟨hx26_0,hf26_0⟩:=Kd.R_celln 0 HO_5.out ((ji23):Int) p26 q26;replace p26:=eq_true p26;replace q26:=eq_true q26;obtain ⟨hy30_,hz30_⟩:=Kd.R_celln 0 HO_5.out ((ji23):Int) (of_decide_eq_true (by first|(with_reducible assumption)|assumption)) (of_decide_eq_true (by first|(with_reducible assumption)|assumption));have HP30:=Kd.R_putg HO_5.out ((ji23):Int) (wrap64 ((rd x5_1 (ji23)) - 1)))|((with_reducible refine gate_store (t:=3) (p:=40) rfl ?_);refine store_event (t:=3) (p:=40) (v:=?vo_w31) (w1:=(w28.setCell ⟨go26,((ji23):Int).toNat,none⟩ (.int .i64 (wrap64 ((rd x5_1 (ji23)) - 1))))) ?hg ?ho ?hn ?hr ?_;(case ho=>rfl);(case hg=>rfl);(case hn=>rfl);(case hr=>first|(go_simp;done)|(go_simp;rfl));intro w31 hw;have hg:w28.grownBy w31 (some go26):=(by rw [hw];exact HP30.2);have hp_:Kd.R (Kd.int .i64) 3 w31 w.heap.size (fun k_=>some k_≠(.slice (some ad209) x4_1.length co17:Value).ownBlock∧some k_≠(.slice (some ⟨go13,0,none⟩) x3_1.length co13:Value).ownBlock) (.slice (some ⟨go26,0,none⟩) x5_1.length co29) y212:=(by rw [hw,Ny212.out];exact HP30.1);clear HP30;have n0_:=Aside0.mk (Kd.R_after (v:=(.slice (some ⟨go26,0,none⟩) x5_1.length co29)) (v1:=(.slice (some ⟨go26,0,none⟩) x5_1.length co29)) (ok:=(fun k_=>some k_≠(.slice (some ad209) x4_1.length co17:Value).ownBlock)) (by (with_reducible repeat (first|apply Kd.R_alloc|apply Kd.R_drewN|apply Kd.R_drew));exact HO_3.out) hg (.inl rfl));have n1_:=Aside0.mk (Kd.R_after (v:=(.slice (some ⟨go26,0,none⟩) x5_1.length co29)) (v1:=(.slice (some ⟨go26,0,none⟩) x5_1.length co29)) (ok:=(fun k_=>some k_≠(.slice (some ⟨go13,0,none⟩) x3_1.length co13:Value).ownBlock)) (by (with_reducible repeat (first|apply Kd.R_alloc|apply Kd.R_drewN|apply Kd.R_drew));exact Kd.R_mono HO_4.out (fun _ hk=>⟨hk.2,hk.1⟩)) hg (.inl rfl));have n2_:=Aside0.mk (hp_);have n3_:=Aside0.mk ((by rw [hw];exact below_set (HB.out) GB26.out:Below w.heap.size w w31));clear HO_3;clear HO_4;clear HO_5;clear HB;have HO_3:=n0_;have HO_4:=n1_;have HO_5:=n2_;have HB:=n3_;clear n0_ n1_ n2_ n3_;clear hg hw hp_))
              go_meet
              case rel=>exact ⟨_,(y210),(y212),H',⟨by have:=HK1.out;first|omega|exact Nat.le_refl _⟩,⟨by (with_reducible repeat (first|apply Kd.R_alloc|apply Kd.R_drewN|apply Kd.R_drew));first|exact HO_3.out|exact Kd.R_mono HO_3.out (fun k_ h_=>by simp only [own_map7] at h_ ⊢;exact h_)⟩,⟨by (with_reducible repeat (first|apply Kd.R_alloc|apply Kd.R_drewN|apply Kd.R_drew));first|exact HO_4.out|exact Kd.R_mono HO_4.out (fun k_ h_=>by simp only [own_map7] at h_ ⊢;exact h_)⟩,⟨by (with_reducible repeat (first|apply Kd.R_alloc|apply Kd.R_drewN|apply Kd.R_drew));exact Kd.R_mono HO_5.out (fun _ hk=>⟨hk.2,hk.1⟩)⟩,⟨by repeat (first|exact HB.out|apply below_alloc|apply pw_below_drewN|apply below_drew1)⟩⟩
             ·rw [if_neg c25] at H
              exact absurd H (by simp)
            ·rw [if_neg c24] at H
             exact absurd H (by simp)
           ·rw [if_neg c21] at H
            exact absurd H (by simp)
          ·rw [if_neg c20] at H
           exact absurd H (by simp)
         ·rw [if_neg c18] at H
          have c18b0:decide (0<(x4_1.length:Int))=false:=decide_eq_false c18
          have c18b1:decide (0<x4_1.length)=false:=decide_eq_false (by omega)
          clear c18
          (first|rw [c18b0]|(simp only [i64_w,i32_w];rw [c18b0])|rw [c18b1]|skip)
          have H':=Aside0.mk H
          clear H
          go_wp2
          go_meet
          case rel=>exact ⟨_,(y208),(x5_1),H',⟨by have:=HK1.out;first|omega|exact Nat.le_refl _⟩,⟨by (with_reducible repeat (first|apply Kd.R_alloc|apply Kd.R_drewN|apply Kd.R_drew));first|exact HO_3.out|exact Kd.R_mono HO_3.out (fun k_ h_=>by simp only [own_map7] at h_ ⊢;exact h_)⟩,⟨by (with_reducible repeat (first|apply Kd.R_alloc|apply Kd.R_drewN|apply Kd.R_drew));exact Kd.R_mono HO_4.out (fun _ hk=>⟨hk.2,hk.1⟩)⟩,⟨by (with_reducible repeat (first|apply Kd.R_alloc|apply Kd.R_drewN|apply Kd.R_drew));exact Kd.R_mono HO_5.out (fun _ hk=>⟨hk.2,hk.1⟩)⟩,⟨by repeat (first|exact HB.out|apply below_alloc|apply pw_below_drewN|apply below_drew1)⟩⟩
        case rest=>
         clear HC14
         try clear c10;try clear c10b0;try clear c11;try clear c11b0;try clear c12;try clear c12b0;try clear p13;try clear q13;try clear c18;try clear c18b0;try clear c18b1;try clear c20;try clear c20b0;try clear c21;try clear c21b0;try clear p22;try clear q22;try clear c24;try clear c24b0;try clear c25;try clear c25b0;try clear p26;try clear q26;try clear hx13_0;try clear hx209_0;try clear hx211_0;try clear hx22_0;try clear hx26_0;try clear p209;try clear p211;try clear q209;try clear q211
         obtain ⟨kq,x3_13,x5_13,HA,HJ13,HO_3,HO_4,HO_5,HB⟩:=hcut
         have hl3_13:=(Kd.R_reads' HO_3.out).1
         rw [hl3_13] at HO_3
         (try simp only [hl3_13])
         (try simp only [hl3_13] at HO_4)
         (try simp only [hl3_13] at HO_5)
         cases kq with
        |zero=>exact absurd HA.out (by simp [spec_l4Parents.j1])
        |succ kj13=>
          have H:=HA.out
          clear HA
          simp only [spec_l4Parents.j1] at H
          by_cases c32:x4_1.length<17592186044416
          ·rw [if_pos c32] at H
           have LMc32:=Aside0.mk c32
           clear c32
           obtain ⟨y213,hy213⟩:∃ y_:List Int,y_=(x4_1++[x6_1]):=⟨_,rfl⟩
           replace H:(if 0≤x6_1 then (if x6_1<(l0.length:Int) then (if x5_13.length<17592186044416 then (spec_l4Parents.l1 kj13 l0 x3_13 y213 (x5_13++[(rd_T59 l0 x6_1).f5]) x6_1) else (none)) else (none)) else (none))=some r:=by first|(rw [hy213];with_reducible exact H)|(have H2_:=(Option.bind_some _ _).symm.trans H;rw [hy213];with_reducible exact H2_)|(have H2_:=(Option.bind_some _ _).symm.trans H;with_reducible exact H2_)|with_reducible exact H|(rw [hy213];exact H)|exact H
           have Ny213:=Aside0.mk hy213
           clear hy213
           by_cases c33:0≤x6_1
           ·rw [if_pos c33] at H
            have c33b0:decide (0≤x6_1)=true:=decide_eq_true c33
            clear c33
            by_cases c34:x6_1<(l0.length:Int)
            ·rw [if_pos c34] at H
             have c34b0:decide (x6_1<(l0.length:Int))=true:=decide_eq_true c34
             clear c34
             by_cases c35:x5_13.length<17592186044416
             ·rw [if_pos c35] at H
              have LMc35:=Aside0.mk c35
              clear c35
              obtain ⟨y217,hy217⟩:∃ y_:List Int,y_=(x5_13++[(rd_T59 l0 x6_1).f5]):=⟨_,rfl⟩
              replace H:(spec_l4Parents.l1 kj13 l0 x3_13 y213 y217 x6_1)=some r:=by first|(rw [hy217];with_reducible exact H)|(have H2_:=(Option.bind_some _ _).symm.trans H;rw [hy217];with_reducible exact H2_)|(have H2_:=(Option.bind_some _ _).symm.trans H;with_reducible exact H2_)|with_reducible exact H|(rw [hy217];exact H)|exact H
              have Ny217:=Aside0.mk hy217
              clear hy217
              have H':=Aside0.mk H
              clear H
              go_wp2_with (first|((with_reducible refine gate_builtin (b:=.append) (xs:=#[.tmp 41,.tmp 43]) rfl ?_);(try (refine gate_guard (by rfl) ?_;dsimp only));at_builtin;refine Kd.R_append (Kd.int .i64) (w0:=w) w.heap.size rfl (.tmp 41) (.tmp 43) 67 3 (.int .i64 0) 8 rfl Try.underlying67 info3 rfl (by decide) (by omega) (.slice Ao17 x4_1.length co17) x4_1 x6_1 [.int .i64 x6_1] (fun k_=>some k_≠(.slice (some ⟨go13,0,none⟩) x3_13.length co13:Value).ownBlock∧some k_≠(u5:Value).ownBlock) (fun _=>False) rfl rfl ?aP (fun _ hk=>hk.elim) ?aF ?aO ?aB ?aS ?aL ?_;(case aP=>exact rfl);(case aB=>exact (by repeat (first|exact HB.out|apply below_alloc|apply pw_below_drewN|apply below_drew1)));(case aF=>exact (fun k_ hk=>⟨Kd.fresh' (Kd.R_lt (by (with_reducible repeat (first|apply Kd.R_alloc|apply Kd.R_drewN|apply Kd.R_drew));exact HO_3.out)) k_ hk,Kd.fresh' (Kd.R_lt (by (with_reducible repeat (first|apply Kd.R_alloc|apply Kd.R_drewN|apply Kd.R_drew));exact HO_5.out)) k_ hk⟩));(case aO=>exact (by (with_reducible repeat (first|apply Kd.R_alloc|apply Kd.R_drewN|apply Kd.R_drew));exact HO_4.out));(case aS=>exact (below_size (by repeat (first|exact HB.out|apply below_alloc|apply pw_below_drewN|apply below_drew1))));(case aL=>have:=LMc32.out;omega);intro v214 w36 ho hb hg hat;rw [← Ny213.out] at ho;have n0_:=Aside0.mk (Kd.R_after (ok:=(fun k_=>some k_≠(u5:Value).ownBlock)) (by (with_reducible repeat (first|apply Kd.R_alloc|apply Kd.R_drewN|apply Kd.R_drew));exact Kd.R_mono HO_3.out (fun _ hk=>⟨hk.2,hk.1⟩)) hg hat);have n1_:=Aside0.mk (Kd.R_after (ok:=(fun k_=>some k_≠(.slice (some ⟨go13,0,none⟩) x3_13.length co13:Value).ownBlock)) (by (with_reducible repeat (first|apply Kd.R_alloc|apply Kd.R_drewN|apply Kd.R_drew));exact HO_5.out) hg hat);have n2_:=Aside0.mk (hb);have n3_:=Aside0.mk (ho);clear HO_3;clear HO_5;clear HB;clear HO_4;have HO_3:=n0_;have HO_5:=n1_;have HB:=n2_;have HO215:=n3_;clear n0_ n1_ n2_ n3_;clear ho hb hg hat;have p216:0≤(x6_1:Int):=of_decide_eq_true (by first|(with_reducible assumption)|assumption);have q216:x6_1<(l0.length:Int):=of_decide_eq_true (by first|(with_reducible assumption)|assumption);obtain ⟨ad216,A216_3,c216_3,e216,hx216_0,hx216_1,hx216_2,hx216_3,hx216_4,hx216_5,hl216_3,hi216_3⟩:=at_T59 HR0.out x6_1 p216 q216;cases e216;replace hx216_0:=pw_cell_below HB.out hx216_0;replace hx216_1:=pw_cell_below HB.out hx216_1;replace hx216_2:=pw_cell_below HB.out hx216_2;replace hx216_3:=pw_cell_below HB.out hx216_3;replace hx216_4:=pw_cell_below HB.out hx216_4;replace hx216_5:=pw_cell_below HB.out hx216_5;have HR216_3:=Aside0.mk hi216_3;have HC216_3:=Aside0.mk hl216_3;clear hi216_3 hl216_3;replace p216:=eq_true p216;replace q216:=eq_true q216)|((with_reducible refine gate_builtin (b:=.append) (xs:=#[.tmp 45,.tmp 51]) rfl ?_);(try (refine gate_guard (by rfl) ?_;dsimp only));at_builtin;refine Kd.R_append (Kd.int .i64) (w0:=w) w.heap.size rfl (.tmp 45) (.tmp 51) 67 3 (.int .i64 0) 8 rfl Try.underlying67 info3 rfl (by decide) (by omega) u5 x5_13 ((rd_T59 l0 x6_1).f5) [.int .i64 ((rd_T59 l0 x6_1).f5)] (fun k_=>some k_≠(.slice (some ⟨go13,0,none⟩) x3_13.length co13:Value).ownBlock∧some k_≠(v214:Value).ownBlock) (fun _=>False) rfl rfl ?aP (fun _ hk=>hk.elim) ?aF ?aO ?aB ?aS ?aL ?_;(case aP=>exact rfl);(case aB=>exact (by repeat (first|exact HB.out|apply below_alloc|apply pw_below_drewN|apply below_drew1)));(case aF=>exact (fun k_ hk=>⟨Kd.fresh' (Kd.R_lt (by (with_reducible repeat (first|apply Kd.R_alloc|apply Kd.R_drewN|apply Kd.R_drew));exact HO_3.out)) k_ hk,Kd.fresh' (Kd.R_lt (by (with_reducible repeat (first|apply Kd.R_alloc|apply Kd.R_drewN|apply Kd.R_drew));exact HO215.out)) k_ hk⟩));(case aO=>exact (by (with_reducible repeat (first|apply Kd.R_alloc|apply Kd.R_drewN|apply Kd.R_drew));exact HO_5.out));(case aS=>exact (below_size (by repeat (first|exact HB.out|apply below_alloc|apply pw_below_drewN|apply below_drew1))));(case aL=>have:=LMc35.out;omega);intro v218 w37 ho hb hg hat;rw [← Ny217.out] at ho;have n0_:=Aside0.mk (Kd.R_after (ok:=(fun k_=>some k_≠(v214:Value).ownBlock)) (by (with_reducible repeat (first|apply Kd.R_alloc|apply Kd.R_drewN|apply Kd.R_drew));exact Kd.R_mono HO_3.out (fun _ hk=>⟨hk.2,hk.1⟩)) hg hat);have n1_:=Aside0.mk (Kd.R_after (ok:=(fun k_=>some k_≠(.slice (some ⟨go13,0,none⟩) x3_13.length co13:Value).ownBlock)) (by (with_reducible repeat (first|apply Kd.R_alloc|apply Kd.R_drewN|apply Kd.R_drew));exact HO215.out) hg hat);have n2_:=Aside0.mk (hb);have n3_:=Aside0.mk (ho);clear HO_3;clear HO215;clear HB;clear HO_5;have HO_3:=n0_;have HO215:=n1_;have HB:=n2_;have HO219:=n3_;clear n0_ n1_ n2_ n3_;clear ho hb hg hat))
              go_loopg [4,5] kj13 (fun kq v4 v5 w'=>∃ (x4_3:List Int) (x5_3:List Int),Aside0 (spec_l4Parents.l1 kq l0 x3_13 x4_3 x5_3 x6_1=some r)∧Aside0 (kq≤kj13)∧Aside0 (Kd.R (Kd.int .i64) 3 w' w.heap.size (fun k_=>some k_≠(v4:Value).ownBlock∧some k_≠(v5:Value).ownBlock) (.slice (some ⟨go13,0,none⟩) x3_13.length co13) x3_13)∧Aside0 (Kd.R (Kd.int .i64) 3 w' w.heap.size (fun k_=>some k_≠((.slice (some ⟨go13,0,none⟩) x3_13.length co13):Value).ownBlock∧some k_≠(v5:Value).ownBlock) v4 x4_3)∧Aside0 (Kd.R (Kd.int .i64) 3 w' w.heap.size (fun k_=>some k_≠((.slice (some ⟨go13,0,none⟩) x3_13.length co13):Value).ownBlock∧some k_≠(v4:Value).ownBlock) v5 x5_3)∧Aside0 (Below w.heap.size w w'))
              case atStart=>exact ⟨(y213),(y217),H',⟨Nat.le_refl _⟩,⟨by (try simp only [hl3_13]);(with_reducible repeat (first|apply Kd.R_alloc|apply Kd.R_drewN|apply Kd.R_drew));exact HO_3.out⟩,⟨by (try simp only [hl3_13]);(with_reducible repeat (first|apply Kd.R_alloc|apply Kd.R_drewN|apply Kd.R_drew));exact HO215.out⟩,⟨by (try simp only [hl3_13]);(with_reducible repeat (first|apply Kd.R_alloc|apply Kd.R_drewN|apply Kd.R_drew));exact HO219.out⟩,⟨by repeat (first|exact HB.out|apply below_alloc|apply pw_below_drewN|apply below_drew1)⟩⟩
              case round=>
               clear H'
               try clear c32;try clear c33;try clear c33b0;try clear c34;try clear c34b0;try clear c35;try clear hx216_0;try clear hx216_1;try clear hx216_2;try clear hx216_3;try clear hx216_4;try clear hx216_5;try clear p216;try clear q216
               obtain ⟨x4_3,x5_3,HA,HK3,HO_3,HO_4,HO_5,HB⟩:=hrel
               cases gk with
              |zero=>exact absurd HA.out (by simp [spec_l4Parents.l1])
              |succ k3=>
                have H:=HA.out
                clear HA
                simp only [spec_l4Parents.l1] at H
                by_cases c38:(x5_3.length:Int) > 0
                ·rw [if_pos c38] at H
                 have c38b0:decide (0<(x5_3.length:Int))=true:=decide_eq_true c38
                 have c38b1:decide (0<x5_3.length)=true:=decide_eq_true (by omega)
                 clear c38
                 obtain ⟨ji39,hji39⟩:∃ j_:Int,(wrap64 ((x5_3.length:Int) - 1))=j_:=⟨_,rfl⟩
                 replace H:(if 0≤(ji39) then (if (ji39)<(x5_3.length:Int) then (if (rd x5_3 (ji39))=0 then (if 0≤(wrap64 ((x4_3.length:Int) - 1)) then (if (wrap64 ((x4_3.length:Int) - 1))≤(x4_3.length:Int) then (if (ji39)≤(x5_3.length:Int) then (spec_l4Parents.l1 k3 l0 x3_13 (x4_3.take ((wrap64 ((x4_3.length:Int) - 1)):Int).toNat) (x5_3.take ((ji39):Int).toNat) x6_1) else (none)) else (none)) else (none)) else (spec_l4Parents.l0 k3 l0 x3_13 x4_3 x5_3 (wrap64 (x6_1+1)))) else (none)) else (none))=some r:=by first|(rw [hji39] at H;exact H)|(simp only [hji39] at H ⊢;exact H)
                 have hji39w:(IntKind.i64.wrap ((x5_3.length:Int) - 1))=ji39:=(i64_w _).trans hji39
                 by_cases c40:0≤(ji39)
                 ·rw [if_pos c40] at H
                  have c40b0:decide (0≤(ji39))=true:=decide_eq_true c40
                  clear c40
                  by_cases c41:(ji39)<(x5_3.length:Int)
                  ·rw [if_pos c41] at H
                   have c41b0:decide ((ji39)<(x5_3.length:Int))=true:=decide_eq_true c41
                   clear c41
                   by_cases c42:(rd x5_3 (ji39))=0
                   ·rw [if_pos c42] at H
                    have c42b0:((rd x5_3 (ji39))==0)=true:=beq_iff_eq.mpr c42
                    have c42b1:((rd x5_3 (ji39)) != 0)=false:=bne_eq_false_iff_eq.mpr c42
                    clear c42
                    obtain ⟨ji43,hji43⟩:∃ j_:Int,(wrap64 ((x4_3.length:Int) - 1))=j_:=⟨_,rfl⟩
                    replace H:(if 0≤(ji43) then (if (ji43)≤(x4_3.length:Int) then (if (ji39)≤(x5_3.length:Int) then (spec_l4Parents.l1 k3 l0 x3_13 (x4_3.take ((ji43):Int).toNat) (x5_3.take ((ji39):Int).toNat) x6_1) else (none)) else (none)) else (none))=some r:=by first|(rw [hji43] at H;exact H)|(simp only [hji43] at H ⊢;exact H)
                    have hji43w:(IntKind.i64.wrap ((x4_3.length:Int) - 1))=ji43:=(i64_w _).trans hji43
                    by_cases c44:0≤(ji43)
                    ·rw [if_pos c44] at H
                     have c44b0:=eq_true c44
                     have c44b1:decide (0≤(ji43))=true:=decide_eq_true c44
                     clear c44
                     by_cases c45:(ji43)≤(x4_3.length:Int)
                     ·rw [if_pos c45] at H
                      have c45b0:=eq_true c45
                      have c45b1:decide ((ji43)≤(x4_3.length:Int))=true:=decide_eq_true c45
                      clear c45
                      obtain ⟨y221,hy221⟩:∃ y_:List Int,y_=(x4_3.take ((ji43):Int).toNat):=⟨_,rfl⟩
                      replace H:(if (ji39)≤(x5_3.length:Int) then (spec_l4Parents.l1 k3 l0 x3_13 y221 (x5_3.take ((ji39):Int).toNat) x6_1) else (none))=some r:=by first|(rw [hy221];with_reducible exact H)|(have H2_:=(Option.bind_some _ _).symm.trans H;rw [hy221];with_reducible exact H2_)|(have H2_:=(Option.bind_some _ _).symm.trans H;with_reducible exact H2_)|with_reducible exact H|(rw [hy221];exact H)|exact H
                      have Ny221:=Aside0.mk hy221
                      clear hy221
                      by_cases c46:(ji39)≤(x5_3.length:Int)
                      ·rw [if_pos c46] at H
                       have c46b0:=eq_true c46
                       have c46b1:decide ((ji39)≤(x5_3.length:Int))=true:=decide_eq_true c46
                       clear c46
                       obtain ⟨y224,hy224⟩:∃ y_:List Int,y_=(x5_3.take ((ji39):Int).toNat):=⟨_,rfl⟩
                       replace H:(spec_l4Parents.l1 k3 l0 x3_13 y221 y224 x6_1)=some r:=by first|(rw [hy224];with_reducible exact H)|(have H2_:=(Option.bind_some _ _).symm.trans H;rw [hy224];with_reducible exact H2_)|(have H2_:=(Option.bind_some _ _).symm.trans H;with_reducible exact H2_)|with_reducible exact H|(rw [hy224];exact H)|exact H
                       have Ny224:=Aside0.mk hy224
                       clear hy224
                       have H':=Aside0.mk H
                       clear H
                       obtain ⟨Ao47,co47,eo47⟩:=Kd.R_slice HO_5.out
                       subst eo47
                       have p220:0≤((ji39):Int):=of_decide_eq_true (by first|(with_reducible assumption)|assumption)
                       have q220:(ji39)<(x5_3.length:Int):=of_decide_eq_true (by first|(with_reducible assumption)|assumption)
                       obtain ⟨ad220,e220,hx220_0⟩:=Kd.at_int (Kd.R_reads' HO_5.out).2.2 (ji39) p220 q220
                       cases e220
                       replace p220:=eq_true p220
                       replace q220:=eq_true q220
                       obtain ⟨Ao48,co48,eo48⟩:=Kd.R_slice HO_4.out
                       subst eo48
                       have q49:((ji43):Int)≤((x4_3.length:Int):Int):=of_decide_eq_true (by first|(with_reducible assumption)|assumption)
                       obtain ⟨i049,hi049,_,hsz49,_⟩:=info_parts info3
                       have hcut49:=cut_to (P:=Try.prog) 67 3 .i64 Try.underlying67 hi049 Ao48 x4_3.length co48 (ji43) (of_decide_eq_true (by first|(with_reducible assumption)|assumption)) q49 (Kd.R_reads' HO_4.out).2.1
                       have hr49:=Kd.R_take (m:=((ji43):Int).toNat) HO_4.out (by omega)
                       have hy49:y221.length=((ji43):Int).toNat:=(by rw [Ny221.out,List.length_take];omega)
                       rw [← Ny221.out] at hr49
                       rw [← hy49] at hr49 hcut49
                       clear hy49 hi049 hsz49 HO_4
                       have HO223:=Aside0.mk hr49
                       clear hr49
                       replace q49:=eq_true q49
                       have q50:((ji39):Int)≤((x5_3.length:Int):Int):=of_decide_eq_true (by first|(with_reducible assumption)|assumption)
                       obtain ⟨i050,hi050,_,hsz50,_⟩:=info_parts info3
                       have hcut50:=cut_to (P:=Try.prog) 67 3 .i64 Try.underlying67 hi050 (some ad220) x5_3.length co47 (ji39) (of_decide_eq_true (by first|(with_reducible assumption)|assumption)) q50 (Kd.R_reads' HO_5.out).2.1
                       have hr50:=Kd.R_take (m:=((ji39):Int).toNat) HO_5.out (by omega)
                       have hy50:y224.length=((ji39):Int).toNat:=(by rw [Ny224.out,List.length_take];omega)
                       rw [← Ny224.out] at hr50
                       rw [← hy50] at hr50 hcut50
                       clear hy50 hi050 hsz50 HO_5
                       have HO226:=Aside0.mk hr50
                       clear hr50
                       replace q50:=eq_true q50
                       go_wp2
                       go_roundg k3
                       case measure=>have:=HK1.out;have:=HJ13.out;have:=HK3.out;omega
                       case rel=>exact ⟨(y221),(y224),H',⟨by have:=HK1.out;have:=HJ13.out;have:=HK3.out;omega⟩,⟨by (try simp only [hl3_13]);(with_reducible repeat (first|apply Kd.R_alloc|apply Kd.R_drewN|apply Kd.R_drew));first|exact HO_3.out|exact Kd.R_mono HO_3.out (fun k_ h_=>by simp only [own_map7] at h_ ⊢;exact h_)⟩,⟨by (try simp only [hl3_13]);(with_reducible repeat (first|apply Kd.R_alloc|apply Kd.R_drewN|apply Kd.R_drew));first|exact HO223.out|exact Kd.R_mono HO223.out (fun k_ h_=>by simp only [own_map7] at h_ ⊢;exact h_)⟩,⟨by (try simp only [hl3_13]);(with_reducible repeat (first|apply Kd.R_alloc|apply Kd.R_drewN|apply Kd.R_drew));first|exact HO226.out|exact Kd.R_mono HO226.out (fun k_ h_=>by simp only [own_map7] at h_ ⊢;exact h_)⟩,⟨by repeat (first|exact HB.out|apply below_alloc|apply pw_below_drewN|apply below_drew1)⟩⟩
                      ·rw [if_neg c46] at H
                       exact absurd H (by simp)
                     ·rw [if_neg c45] at H
                      exact absurd H (by simp)
                    ·rw [if_neg c44] at H
                     exact absurd H (by simp)
                   ·rw [if_neg c42] at H
                    have c42b0:((rd x5_3 (ji39))==0)=false:=beq_eq_false_iff_ne.mpr c42
                    have c42b1:((rd x5_3 (ji39)) != 0)=true:=bne_iff_ne.mpr c42
                    have H':=Aside0.mk H
                    clear H
                    obtain ⟨Ao51,co51,eo51⟩:=Kd.R_slice HO_5.out
                    subst eo51
                    have p220:0≤((ji39):Int):=of_decide_eq_true (by first|(with_reducible assumption)|assumption)
                    have q220:(ji39)<(x5_3.length:Int):=of_decide_eq_true (by first|(with_reducible assumption)|assumption)
                    obtain ⟨ad220,e220,hx220_0⟩:=Kd.at_int (Kd.R_reads' HO_5.out).2.2 (ji39) p220 q220
                    cases e220
                    replace p220:=eq_true p220
                    replace q220:=eq_true q220
                    go_wp2
                    (try simp only [← hl3_13])
                    go_roundg k3
                    case measure=>have:=HK1.out;have:=HJ13.out;have:=HK3.out;omega
                    case rel=>exact ⟨(x3_13),(x4_3),(x5_3),(wrap64 (x6_1+1)),(by first|rfl|(simp;done)|(simp [*];done)),H',⟨by have:=HK1.out;have:=HJ13.out;have:=HK3.out;omega⟩,⟨by (try simp only [hl3_13]);(with_reducible repeat (first|apply Kd.R_alloc|apply Kd.R_drewN|apply Kd.R_drew));first|exact HO_3.out|exact Kd.R_mono HO_3.out (fun k_ h_=>by simp only [own_map7] at h_ ⊢;exact h_)⟩,⟨by (try simp only [hl3_13]);(with_reducible repeat (first|apply Kd.R_alloc|apply Kd.R_drewN|apply Kd.R_drew));first|exact HO_4.out|exact Kd.R_mono HO_4.out (fun k_ h_=>by simp only [own_map7] at h_ ⊢;exact h_)⟩,⟨by (try simp only [hl3_13]);(with_reducible repeat (first|apply Kd.R_alloc|apply Kd.R_drewN|apply Kd.R_drew));first|exact HO_5.out|exact Kd.R_mono HO_5.out (fun k_ h_=>by simp only [own_map7] at h_ ⊢;exact h_)⟩,⟨by repeat (first|exact HB.out|apply below_alloc|apply pw_below_drewN|apply below_drew1)⟩⟩
                  ·rw [if_neg c41] at H
                   exact absurd H (by simp)
                 ·rw [if_neg c40] at H
                  exact absurd H (by simp)
                ·rw [if_neg c38] at H
                 have c38b0:decide (0<(x5_3.length:Int))=false:=decide_eq_false c38
                 have c38b1:decide (0<x5_3.length)=false:=decide_eq_false (by omega)
                 clear c38
                 have H':=Aside0.mk H
                 clear H
                 obtain ⟨Ao52,co52,eo52⟩:=Kd.R_slice HO_5.out
                 subst eo52
                 go_wp2
                 (try simp only [← hl3_13])
                 go_roundg k3
                 case measure=>have:=HK1.out;have:=HJ13.out;have:=HK3.out;omega
                 case rel=>exact ⟨(x3_13),(x4_3),(x5_3),(wrap64 (x6_1+1)),(by first|rfl|(simp;done)|(simp [*];done)),H',⟨by have:=HK1.out;have:=HJ13.out;have:=HK3.out;omega⟩,⟨by (try simp only [hl3_13]);(with_reducible repeat (first|apply Kd.R_alloc|apply Kd.R_drewN|apply Kd.R_drew));first|exact HO_3.out|exact Kd.R_mono HO_3.out (fun k_ h_=>by simp only [own_map7] at h_ ⊢;exact h_)⟩,⟨by (try simp only [hl3_13]);(with_reducible repeat (first|apply Kd.R_alloc|apply Kd.R_drewN|apply Kd.R_drew));first|exact HO_4.out|exact Kd.R_mono HO_4.out (fun k_ h_=>by simp only [own_map7] at h_ ⊢;exact h_)⟩,⟨by (try simp only [hl3_13]);(with_reducible repeat (first|apply Kd.R_alloc|apply Kd.R_drewN|apply Kd.R_drew));first|exact HO_5.out|exact Kd.R_mono HO_5.out (fun k_ h_=>by simp only [own_map7] at h_ ⊢;exact h_)⟩,⟨by repeat (first|exact HB.out|apply below_alloc|apply pw_below_drewN|apply below_drew1)⟩⟩
             ·rw [if_neg c35] at H
              exact absurd H (by simp)
            ·rw [if_neg c34] at H
             exact absurd H (by simp)
           ·rw [if_neg c33] at H
            exact absurd H (by simp)
          ·rw [if_neg c32] at H
           exact absurd H (by simp)
       ·rw [if_neg c12] at H
        exact absurd H (by simp)
      ·rw [if_neg c11] at H
       exact absurd H (by simp)
     ·rw [if_neg c10] at H
      have c10b0:decide (x6_1<(l0.length:Int))=false:=decide_eq_false c10
      clear c10
      obtain rfl:=Option.some.inj H
      go_wp2
      go_ret
      exact ⟨_,by first|rfl|(simp [errW_none,errW_some]<;>rfl)|(simp [*,errW_none,errW_some]<;>rfl),by (with_reducible repeat (first|apply Kd.R_alloc|apply Kd.R_drewN|apply Kd.R_drew));exact Kd.R_mono HO_3.out (fun _ hk=>trivial),by repeat (first|exact HB.out|apply below_alloc|apply pw_below_drewN|apply below_drew1)⟩
  ·rw [if_neg c3] at H
   exact absurd H (by simp)
 ·rw [if_neg c2] at H
  exact absurd H (by simp)
/-! ### spec_l4KidsOf: function 51 -/
def spec_l4KidsOf.l0:Nat→List (S59)→Int→List Int→Int→Int→Option (List Int)
  |0,_,_,_,_,_=>none
  |k+1,x0,x1,x5,x6,x7=>if 0≤x1 then (if x1<(x0.length:Int) then (if x7<((rd_T59 x0 x1).f5) then (if x5.length<17592186044416 then ((spec_l3Skip.f k x0 x6).bind fun t234=>(spec_l4KidsOf.l0 k x0 x1 (x5++[x6]) t234 (wrap64 (x7+1)))) else (none)) else (some x5)) else (none)) else (none)
def spec_l4KidsOf.f (k:Nat) (l0:List (S59)) (a1:Int):Option (List Int):=spec_l4KidsOf.l0 k l0 a1 (([]:List Int)) (wrap64 (a1+1)) 0
theorem spec_l4KidsOf.mono_l:∀ k,(∀ y0 y1 y2 y3 y4,LeO (spec_l4KidsOf.l0 k y0 y1 y2 y3 y4) (spec_l4KidsOf.l0 (k+1) y0 y1 y2 y3 y4))
 |0=>fun _ _ _ _ _ r h=>by simp [spec_l4KidsOf.l0] at h
 |k+1=>by
  have ih0:=spec_l4KidsOf.mono_l k
  ·intro y0 y1 y2 y3 y4
   unfold spec_l4KidsOf.l0
   repeat' first
  |(with_reducible exact ih0 _ _ _ _ _)
  |(with_reducible exact spec_l3Skip.mono _ _ _)
  |(with_reducible exact LeO.refl _)
  |(with_reducible exact LeO.none _)
  |(with_reducible refine LeO.ite ?_ ?_)
  |(with_reducible refine LeO.bind ?_ (fun _=>?_))
  |exact ih0 _ _ _ _ _
  |exact spec_l3Skip.mono _ _ _
  |exact LeO.none _
  |refine LeO.ite ?_ ?_
  |refine LeO.bind ?_ (fun _=>?_)
theorem spec_l4KidsOf.mono:∀ a0 a1 k,LeO (spec_l4KidsOf.f k a0 a1) (spec_l4KidsOf.f (k+1) a0 a1):=by
 intro a0 a1 k
 have ih0:=spec_l4KidsOf.mono_l k
 unfold spec_l4KidsOf.f
 repeat' first
  |(with_reducible exact ih0 _ _ _ _ _)
  |(with_reducible exact spec_l3Skip.mono _ _ _)
  |(with_reducible exact LeO.refl _)
  |(with_reducible exact LeO.none _)
  |(with_reducible refine LeO.ite ?_ ?_)
  |(with_reducible refine LeO.bind ?_ (fun _=>?_))
  |exact ih0 _ _ _ _ _
  |exact spec_l3Skip.mono _ _ _
  |exact LeO.none _
  |refine LeO.ite ?_ ?_
  |refine LeO.bind ?_ (fun _=>?_)
set_option maxHeartbeats 8000000 in
set_option maxRecDepth 100000 in
theorem spec_l4KidsOf.calls (k:Nat) (A0:Option Addr) (c0:Nat) (l0:List (S59)) (a1:Int) (r:List Int) (w:World) (hr0:Kd.C k59 w A0 l0.length l0) (hc0:l0.length≤c0) (h:spec_l4KidsOf.f k l0 a1=some r) :
  Calls Try.prog 51 #[.slice A0 l0.length c0,.int .i64 a1] w fun e w'=>∃ v0_:Value,e=.returned (v0_)∧Kd.R (Kd.int .i64) 3 w' w.heap.size (fun _=>True) v0_ r∧Below w.heap.size w w':=by
 have HR0:=Aside0.mk hr0
 have HC0:=Aside0.mk hc0
 clear hr0 hc0
 have HB:=Aside0.mk (Below.refl w.heap.size w)
 have H:(spec_l4KidsOf.l0 k l0 a1 (([]:List Int)) (wrap64 (a1+1)) 0)=some r:=h
 clear h
 obtain ⟨y227,hy227⟩:∃ y_:List Int,y_=(([]:List Int)):=⟨_,rfl⟩
 replace H:(spec_l4KidsOf.l0 k l0 a1 y227 (wrap64 (a1+1)) 0)=some r:=by first|(rw [hy227];with_reducible exact H)|(have H2_:=(Option.bind_some _ _).symm.trans H;rw [hy227];with_reducible exact H2_)|(have H2_:=(Option.bind_some _ _).symm.trans H;with_reducible exact H2_)|with_reducible exact H|(rw [hy227];exact H)|exact H
 have Ny227:=Aside0.mk hy227
 clear hy227
 have H':=Aside0.mk H
 clear H
 go_enter Try.func51,Try.ntmps51
 go_wp2_with (first|((with_reducible refine gate_dst (N:=8) rfl ?_);refine Kd.R_lit (Kd.int .i64) _ 3 ?hg (N:=8) ?hd (xs:=([]:List Int)) (inner:=[]) (ok:=fun _=>True) (okp:=fun _=>True) ?hr ?hp (fun _ hk=>hk) trivial (Below.refl _ _) (Nat.le_refl _) (by simp) ?_;(case hd=>rfl);(case hg=>rfl);(case hr=>first|(go_simp;done)|(go_simp;rfl));(case hp=>exact (Reps.none _ _));intro v228 w3 ho4 hb hg_ hnew_;clear hg_ hnew_;(first|rw [← Ny227.out] at ho4|(simp only [Int.reduceToNat] at ho4;rw [← Ny227.out] at ho4));have n0_:=Aside0.mk (Kd.R_lower ho4 (below_size (by repeat (first|exact HB.out|apply below_alloc|apply pw_below_drewN|apply below_drew1))));have n1_:=Aside0.mk (below_step (by repeat (first|exact HB.out|apply below_alloc|apply pw_below_drewN|apply below_drew1)) hb);clear HB;have HO229:=n0_;have HB:=n1_;clear n0_ n1_;clear hb ho4))
 go_loopg [5,6,7] k (fun kq v5 v6 v7 w'=>∃ (x5_1:List Int) (x6_1:Int) (x7_1:Int),v6=.int .i64 x6_1∧v7=.int .i64 x7_1∧Aside0 (spec_l4KidsOf.l0 kq l0 a1 x5_1 x6_1 x7_1=some r)∧Aside0 (kq≤k)∧Aside0 (Kd.R (Kd.int .i64) 3 w' w.heap.size (fun _=>True) v5 x5_1)∧Aside0 (Below w.heap.size w w'))
 case atStart=>exact ⟨(y227),(wrap64 (a1+1)),(0),(by first|rfl|(simp;done)|(simp [*];done)),(by first|rfl|(simp;done)|(simp [*];done)),H',⟨Nat.le_refl _⟩,⟨by (with_reducible repeat (first|apply Kd.R_alloc|apply Kd.R_drewN|apply Kd.R_drew));exact HO229.out⟩,⟨by repeat (first|exact HB.out|apply below_alloc|apply pw_below_drewN|apply below_drew1)⟩⟩
 case round=>
  clear H'
  obtain ⟨x5_1,x6_1,x7_1,rfl,rfl,HA,HK1,HO_5,HB⟩:=hrel
  cases gk with
 |zero=>exact absurd HA.out (by simp [spec_l4KidsOf.l0])
 |succ k1=>
   have H:=HA.out
   clear HA
   simp only [spec_l4KidsOf.l0] at H
   by_cases c5:0≤a1
   ·rw [if_pos c5] at H
    have c5b0:decide (0≤a1)=true:=decide_eq_true c5
    clear c5
    by_cases c6:a1<(l0.length:Int)
    ·rw [if_pos c6] at H
     have c6b0:decide (a1<(l0.length:Int))=true:=decide_eq_true c6
     clear c6
     by_cases c7:x7_1<((rd_T59 l0 a1).f5)
     ·rw [if_pos c7] at H
      have c7b0:decide (x7_1<((rd_T59 l0 a1).f5))=true:=decide_eq_true c7
      clear c7
      by_cases c8:x5_1.length<17592186044416
      ·rw [if_pos c8] at H
       have LMc8:=Aside0.mk c8
       clear c8
       obtain ⟨y231,hy231⟩:∃ y_:List Int,y_=(x5_1++[x6_1]):=⟨_,rfl⟩
       replace H:((spec_l3Skip.f k1 l0 x6_1).bind fun t234=>(spec_l4KidsOf.l0 k1 l0 a1 y231 t234 (wrap64 (x7_1+1))))=some r:=by first|(rw [hy231];with_reducible exact H)|(have H2_:=(Option.bind_some _ _).symm.trans H;rw [hy231];with_reducible exact H2_)|(have H2_:=(Option.bind_some _ _).symm.trans H;with_reducible exact H2_)|with_reducible exact H|(rw [hy231];exact H)|exact H
       have Ny231:=Aside0.mk hy231
       clear hy231
       replace H:=Option.bind_eq_some_iff.mp H
       obtain ⟨t234,A90,H⟩:=H
       try dsimp only at H
       have A9:=Aside0.mk A90
       clear A90
       have H':=Aside0.mk H
       clear H
       have p230:0≤(a1:Int):=of_decide_eq_true (by first|(with_reducible assumption)|assumption)
       have q230:a1<(l0.length:Int):=of_decide_eq_true (by first|(with_reducible assumption)|assumption)
       obtain ⟨ad230,A230_3,c230_3,e230,hx230_0,hx230_1,hx230_2,hx230_3,hx230_4,hx230_5,hl230_3,hi230_3⟩:=at_T59 HR0.out a1 p230 q230
       cases e230
       replace hx230_0:=pw_cell_below HB.out hx230_0
       replace hx230_1:=pw_cell_below HB.out hx230_1
       replace hx230_2:=pw_cell_below HB.out hx230_2
       replace hx230_3:=pw_cell_below HB.out hx230_3
       replace hx230_4:=pw_cell_below HB.out hx230_4
       replace hx230_5:=pw_cell_below HB.out hx230_5
       have HR230_3:=Aside0.mk hi230_3
       have HC230_3:=Aside0.mk hl230_3
       clear hi230_3 hl230_3
       replace p230:=eq_true p230
       replace q230:=eq_true q230
       go_wp2_with (first|((with_reducible refine gate_builtin (b:=.append) (xs:=#[.tmp 20,.tmp 22]) rfl ?_);at_builtin;refine Kd.R_append (Kd.int .i64) (w0:=w) w.heap.size rfl (.tmp 20) (.tmp 22) 67 3 (.int .i64 0) 8 rfl Try.underlying67 info3 rfl (by decide) (by omega) u5 x5_1 x6_1 [.int .i64 x6_1] (fun _=>True) (fun _=>False) rfl rfl ?aP (fun _ hk=>hk.elim) ?aF ?aO ?aB ?aS ?aL ?_;(case aP=>exact rfl);(case aB=>exact (by repeat (first|exact HB.out|apply below_alloc|apply pw_below_drewN|apply below_drew1)));(case aF=>exact (fun _ _=>trivial));(case aO=>exact (by (with_reducible repeat (first|apply Kd.R_alloc|apply Kd.R_drewN|apply Kd.R_drew));exact HO_5.out));(case aS=>exact (below_size (by repeat (first|exact HB.out|apply below_alloc|apply pw_below_drewN|apply below_drew1))));(case aL=>have:=LMc8.out;omega);intro v232 w10 ho hb hg hat;rw [← Ny231.out] at ho;have n0_:=Aside0.mk (hb);have n1_:=Aside0.mk (ho);clear HB;clear HO_5;have HB:=n0_;have HO233:=n1_;clear n0_ n1_;clear ho hb hg hat)|((with_reducible refine gate_callee (f:=39) rfl ?_);refine goesL_ (some 26) rfl rfl Try.func39 (by kernel_rfl) rfl #[.slice (some ad230) l0.length c0,.int .i64 x6_1] rfl (by (try simp only [List.map_toArray,List.map_cons,List.map_nil]);first|done|rfl|(simp only [List.length_drop,List.length_take];rfl)) ?_;(with_reducible refine (spec_l3Skip.calls k1 _ _ l0 x6_1 t234 _ ?side1 ?side2 A9.out).mono ?_);(case side1=>repeat (first|exact (Kd.C_below HR0.out HB.out)|(with_reducible refine Kd.C_alloc ?_ _)|(with_reducible refine Kd.C_drewN ?_ _)|(with_reducible refine Kd.C_drew ?_)));(case side2=>exact HC0.out);rintro e w' ⟨rfl,⟨nd,rfl⟩⟩;refine ⟨_,rfl,?_⟩))
       go_roundg k1
       case measure=>have:=HK1.out;omega
       case rel=>exact ⟨(y231),(t234),(wrap64 (x7_1+1)),(by first|rfl|(simp;done)|(simp [*];done)),(by first|rfl|(simp;done)|(simp [*];done)),H',⟨by have:=HK1.out;omega⟩,⟨by (with_reducible repeat (first|apply Kd.R_alloc|apply Kd.R_drewN|apply Kd.R_drew));first|exact HO233.out|exact Kd.R_mono HO233.out (fun k_ h_=>by simp only [own_map7] at h_ ⊢;exact h_)⟩,⟨by repeat (first|exact HB.out|apply below_alloc|apply pw_below_drewN|apply below_drew1)⟩⟩
      ·rw [if_neg c8] at H
       exact absurd H (by simp)
     ·rw [if_neg c7] at H
      have c7b0:decide (x7_1<((rd_T59 l0 a1).f5))=false:=decide_eq_false c7
      clear c7
      obtain rfl:=Option.some.inj H
      have p230:0≤(a1:Int):=of_decide_eq_true (by first|(with_reducible assumption)|assumption)
      have q230:a1<(l0.length:Int):=of_decide_eq_true (by first|(with_reducible assumption)|assumption)
      obtain ⟨ad230,A230_3,c230_3,e230,hx230_0,hx230_1,hx230_2,hx230_3,hx230_4,hx230_5,hl230_3,hi230_3⟩:=at_T59 HR0.out a1 p230 q230
      cases e230
      replace hx230_0:=pw_cell_below HB.out hx230_0
      replace hx230_1:=pw_cell_below HB.out hx230_1
      replace hx230_2:=pw_cell_below HB.out hx230_2
      replace hx230_3:=pw_cell_below HB.out hx230_3
      replace hx230_4:=pw_cell_below HB.out hx230_4
      replace hx230_5:=pw_cell_below HB.out hx230_5
      have HR230_3:=Aside0.mk hi230_3
      have HC230_3:=Aside0.mk hl230_3
      clear hi230_3 hl230_3
      replace p230:=eq_true p230
      replace q230:=eq_true q230
      go_wp2
      go_ret
      exact ⟨_,by first|rfl|(simp [errW_none,errW_some]<;>rfl)|(simp [*,errW_none,errW_some]<;>rfl),by (with_reducible repeat (first|apply Kd.R_alloc|apply Kd.R_drewN|apply Kd.R_drew));exact HO_5.out,by repeat (first|exact HB.out|apply below_alloc|apply pw_below_drewN|apply below_drew1)⟩
    ·rw [if_neg c6] at H
     exact absurd H (by simp)
   ·rw [if_neg c5] at H
    exact absurd H (by simp)
/-! ### spec_l3Find: function 52 -/
def spec_l3Find.l0:Nat→List Int→Int→Int→Option (Int)
  |0,_,_,_=>none
  |k+1,x0,x1,x5=>if x5<(x0.length:Int) then (if 0≤x5 then (if (rd x0 x5)=x1 then (some x5) else (spec_l3Find.l0 k x0 x1 (wrap64 (x5+1)))) else (none)) else (some (-1))
def spec_l3Find.f (k:Nat) (l0:List Int) (a1:Int):Option (Int):=spec_l3Find.l0 k l0 a1 0
theorem spec_l3Find.mono_l:∀ k,(∀ y0 y1 y2,LeO (spec_l3Find.l0 k y0 y1 y2) (spec_l3Find.l0 (k+1) y0 y1 y2))
 |0=>fun _ _ _ r h=>by simp [spec_l3Find.l0] at h
 |k+1=>by
  have ih0:=spec_l3Find.mono_l k
  ·intro y0 y1 y2
   unfold spec_l3Find.l0
   repeat' first
  |(with_reducible exact ih0 _ _ _)
  |(with_reducible exact LeO.refl _)
  |(with_reducible exact LeO.none _)
  |(with_reducible refine LeO.ite ?_ ?_)
  |(with_reducible refine LeO.bind ?_ (fun _=>?_))
  |exact ih0 _ _ _
  |exact LeO.none _
  |refine LeO.ite ?_ ?_
  |refine LeO.bind ?_ (fun _=>?_)
theorem spec_l3Find.mono:∀ a0 a1 k,LeO (spec_l3Find.f k a0 a1) (spec_l3Find.f (k+1) a0 a1):=by
 intro a0 a1 k
 have ih0:=spec_l3Find.mono_l k
 unfold spec_l3Find.f
 repeat' first
  |(with_reducible exact ih0 _ _ _)
  |(with_reducible exact LeO.refl _)
  |(with_reducible exact LeO.none _)
  |(with_reducible refine LeO.ite ?_ ?_)
  |(with_reducible refine LeO.bind ?_ (fun _=>?_))
  |exact ih0 _ _ _
  |exact LeO.none _
  |refine LeO.ite ?_ ?_
  |refine LeO.bind ?_ (fun _=>?_)
set_option maxHeartbeats 8000000 in
set_option maxRecDepth 100000 in
theorem spec_l3Find.calls (k:Nat) (A0:Option Addr) (c0:Nat) (l0:List Int) (a1:Int) (r:Int) (w:World) (hr0:Kd.C (Kd.int .i64) w A0 l0.length l0) (hc0:l0.length≤c0) (h:spec_l3Find.f k l0 a1=some r) :
  Calls Try.prog 52 #[.slice A0 l0.length c0,.int .i64 a1] w fun e w'=>e=.returned (.int .i64 r)∧Drawn0 w w':=by
 have HR0:=Aside0.mk hr0
 have HC0:=Aside0.mk hc0
 clear hr0 hc0
 have H:(spec_l3Find.l0 k l0 a1 0)=some r:=h
 clear h
 have H':=Aside0.mk H
 clear H
 go_enter Try.func52,Try.ntmps52
 go_wp2
 go_loopg [5] k (fun kq v5 w'=>∃ (x5_1:Int),v5=.int .i64 x5_1∧Aside0 (spec_l3Find.l0 kq l0 a1 x5_1=some r)∧Aside0 (kq≤k)∧Drawn0 w w')
 case atStart=>exact ⟨(0),(by first|rfl|(simp;done)|(simp [*];done)),H',⟨Nat.le_refl _⟩,by repeat (first|exact Drawn0.refl _|apply Drawn0.step)⟩
 case round=>
  clear H'
  obtain ⟨x5_1,rfl,HA,HK1,⟨m1,rfl⟩⟩:=hrel
  cases gk with
 |zero=>exact absurd HA.out (by simp [spec_l3Find.l0])
 |succ k1=>
   have H:=HA.out
   clear HA
   simp only [spec_l3Find.l0] at H
   by_cases c3:x5_1<(l0.length:Int)
   ·rw [if_pos c3] at H
    have c3b0:decide (x5_1<(l0.length:Int))=true:=decide_eq_true c3
    clear c3
    by_cases c4:0≤x5_1
    ·rw [if_pos c4] at H
     have c4b0:decide (0≤x5_1)=true:=decide_eq_true c4
     clear c4
     by_cases c5:(rd l0 x5_1)=a1
     ·rw [if_pos c5] at H
      have c5b0:((rd l0 x5_1)==a1)=true:=beq_iff_eq.mpr c5
      have c5b1:((rd l0 x5_1) != a1)=false:=bne_eq_false_iff_eq.mpr c5
      clear c5
      obtain rfl:=Option.some.inj H
      have p235:0≤(x5_1:Int):=of_decide_eq_true (by first|(with_reducible assumption)|assumption)
      have q235:x5_1<(l0.length:Int):=of_decide_eq_true (by first|(with_reducible assumption)|assumption)
      obtain ⟨ad235,e235,hx235_0⟩:=Kd.at_int HR0.out x5_1 p235 q235
      cases e235
      replace p235:=eq_true p235
      replace q235:=eq_true q235
      go_wp2
      go_ret
      exact ⟨by first|rfl|(simp;done)|(simp [*];done),by repeat (first|exact Drawn0.refl _|apply Drawn0.step)⟩
     ·rw [if_neg c5] at H
      have c5b0:((rd l0 x5_1)==a1)=false:=beq_eq_false_iff_ne.mpr c5
      have c5b1:((rd l0 x5_1) != a1)=true:=bne_iff_ne.mpr c5
      have H':=Aside0.mk H
      clear H
      have p235:0≤(x5_1:Int):=of_decide_eq_true (by first|(with_reducible assumption)|assumption)
      have q235:x5_1<(l0.length:Int):=of_decide_eq_true (by first|(with_reducible assumption)|assumption)
      obtain ⟨ad235,e235,hx235_0⟩:=Kd.at_int HR0.out x5_1 p235 q235
      cases e235
      replace p235:=eq_true p235
      replace q235:=eq_true q235
      go_wp2
      go_roundg k1
      case measure=>have:=HK1.out;omega
      case rel=>exact ⟨(wrap64 (x5_1+1)),(by first|rfl|(simp;done)|(simp [*];done)),H',⟨by have:=HK1.out;omega⟩,by repeat (first|exact Drawn0.refl _|apply Drawn0.step)⟩
    ·rw [if_neg c4] at H
     exact absurd H (by simp)
   ·rw [if_neg c3] at H
    have c3b0:decide (x5_1<(l0.length:Int))=false:=decide_eq_false c3
    clear c3
    obtain rfl:=Option.some.inj H
    go_wp2
    go_ret
    exact ⟨by first|rfl|(simp;done)|(simp [*];done),by repeat (first|exact Drawn0.refl _|apply Drawn0.step)⟩
/-! ### spec_l5Number: function 42 -/
def spec_l5Number.f (k:Nat) (l0:List (S59)) (a1:Int) (a2:Int):Option (Int):=(spec_l4KidsOf.f k l0 a1).bind fun t236=>((spec_l3Find.f k t236 a2).bind fun t239=>(some t239))
theorem spec_l5Number.mono:∀ a0 a1 a2 k,LeO (spec_l5Number.f k a0 a1 a2) (spec_l5Number.f (k+1) a0 a1 a2):=by
 intro a0 a1 a2 k
 unfold spec_l5Number.f
 repeat' first
  |(with_reducible exact spec_l3Find.mono _ _ _)
  |(with_reducible exact spec_l4KidsOf.mono _ _ _)
  |(with_reducible exact LeO.refl _)
  |(with_reducible exact LeO.none _)
  |(with_reducible refine LeO.ite ?_ ?_)
  |(with_reducible refine LeO.bind ?_ (fun _=>?_))
  |exact spec_l3Find.mono _ _ _
  |exact spec_l4KidsOf.mono _ _ _
  |exact LeO.none _
  |refine LeO.ite ?_ ?_
  |refine LeO.bind ?_ (fun _=>?_)
set_option maxHeartbeats 8000000 in
set_option maxRecDepth 100000 in
theorem spec_l5Number.calls (k:Nat) (A0:Option Addr) (c0:Nat) (l0:List (S59)) (a1:Int) (a2:Int) (r:Int) (w:World) (hr0:Kd.C k59 w A0 l0.length l0) (hc0:l0.length≤c0) (h:spec_l5Number.f k l0 a1 a2=some r) :
  Calls Try.prog 42 #[.slice A0 l0.length c0,.int .i64 a1,.int .i64 a2] w fun e w'=>e=.returned (.int .i64 r)∧Below w.heap.size w w':=by
 have HR0:=Aside0.mk hr0
 have HC0:=Aside0.mk hc0
 clear hr0 hc0
 have HB:=Aside0.mk (Below.refl w.heap.size w)
 have H:((spec_l4KidsOf.f k l0 a1).bind fun t236=>((spec_l3Find.f k t236 a2).bind fun t239=>(some t239)))=some r:=h
 clear h
 replace H:=Option.bind_eq_some_iff.mp H
 obtain ⟨t236,A40,H⟩:=H
 try dsimp only at H
 have A4:=Aside0.mk A40
 clear A40
 replace H:=Option.bind_eq_some_iff.mp H
 obtain ⟨t239,A50,H⟩:=H
 try dsimp only at H
 have A5:=Aside0.mk A50
 clear A50
 obtain rfl:=Option.some.inj H
 go_enter Try.func42,Try.ntmps42
 go_wp2_with (first|((with_reducible refine gate_callee (f:=51) rfl ?_);refine goesL_ (some 10) rfl rfl Try.func51 (by kernel_rfl) rfl #[.slice A0 l0.length c0,.int .i64 a1] rfl (by (try simp only [List.map_toArray,List.map_cons,List.map_nil]);first|done|rfl|(simp only [List.length_drop,List.length_take];rfl)) ?_;(with_reducible refine (spec_l4KidsOf.calls k _ _ l0 a1 t236 _ ?side1 ?side2 A4.out).mono ?_);(case side1=>repeat (first|exact HR0.out|(with_reducible refine Kd.C_alloc ?_ _)|(with_reducible refine Kd.C_drewN ?_ _)|(with_reducible refine Kd.C_drew ?_)));(case side2=>exact HC0.out);rintro e w6 ⟨v237,rfl,ho0,hb⟩;refine ⟨_,rfl,?_⟩;have n0_:=Aside0.mk (Kd.R_lower ho0 (below_size (by repeat (first|exact HB.out|apply below_alloc|apply pw_below_drewN|apply below_drew1))));have n1_:=Aside0.mk (below_step (by repeat (first|exact HB.out|apply below_alloc|apply pw_below_drewN|apply below_drew1)) hb);clear HB;have HO238:=n0_;have HB:=n1_;clear n0_ n1_;(try clear hb);(try clear hb2);(try clear hk);(try clear hi);(try clear ho0);obtain ⟨Ao7,co7,eo7⟩:=Kd.R_slice HO238.out;subst eo7)|((with_reducible refine gate_callee (f:=52) rfl ?_);refine goesL_ (some 13) rfl rfl Try.func52 (by kernel_rfl) rfl #[.slice Ao7 t236.length co7,.int .i64 a2] rfl (by (try simp only [List.map_toArray,List.map_cons,List.map_nil]);first|done|rfl|(simp only [List.length_drop,List.length_take];rfl)) ?_;(with_reducible refine (spec_l3Find.calls k _ _ t236 a2 t239 _ ?side1 ?side2 A5.out).mono ?_);(case side1=>repeat (first|exact (Kd.R_reads' HO238.out).2.2|(with_reducible refine Kd.C_alloc ?_ _)|(with_reducible refine Kd.C_drewN ?_ _)|(with_reducible refine Kd.C_drew ?_)));(case side2=>exact (Kd.R_reads' HO238.out).2.1);rintro e w' ⟨rfl,⟨nd,rfl⟩⟩;refine ⟨_,rfl,?_⟩))
 go_ret
 exact ⟨by first|rfl|(simp [errW_none,errW_some]<;>rfl)|(simp [*,errW_none,errW_some]<;>rfl),by repeat (first|exact HB.out|apply below_alloc|apply pw_below_drewN|apply below_drew1)⟩
end Go.Proofs.Ytbogfagafdokeaa.QFnExactRangeText
