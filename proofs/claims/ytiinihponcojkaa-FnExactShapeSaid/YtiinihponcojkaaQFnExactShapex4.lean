/- Written by a program (wip/tools/own_print.py) out of the walk that the kit's printer made; turned where it fell. -/
-- PRINTED by print.py (a twelfth state) out of the translation. Not trusted: Lean checks it.
import Derived.Test.YtiinihponcojkaaQFnExactShapex0
import Derived.Test.YtiinihponcojkaaQFnExactShapex3
namespace Go.Proofs.Ytiinihponcojkaa.QFnExactShape
open Go.RowKit Go.Proofs.YtiinihponcojkaaV.PrintWords Go.Proofs.YtiinihponcojkaaV.PrintLast Go.Proofs.YtiinihponcojkaaV.PrintMore
attribute [local go_sem] max2_int min2_int max_two min_two max_three min_three max_four min_four   -- for this text's walks alone
set_option linter.unusedVariables false
set_option linter.unusedSimpArgs false
/-! ### laws_toGlyphS: function 28 -/
def laws_toGlyphS.l0:Nat→List (S86)→List (S79)→Int→Option ((List (S79)))
 |0,_,_,_=>none
 |k+1,x0,x3,x4=>if x4<(x0.length:Int) then (if 0≤x4 then ((laws_toGlyph.f ((rd_T86 x0 x4).f0) ((rd_T86 x0 x4).f1)).bind fun bt152=>(if x4<(x3.length:Int) then (laws_toGlyphS.l0 k x0 (x3.set (x4:Int).toNat (⟨bt152.1,bt152.2⟩:S79)) (wrap64 (x4+1))) else (none))) else (none)) else (some x3)
def laws_toGlyphS.f (k:Nat) (l0:List (S86)):Option ((List (S79))):=if 0≤(l0.length:Int) then (if ((l0.length:Int):Int).toNat≤17592186044416 then (laws_toGlyphS.l0 k l0 (List.replicate ((l0.length:Int):Int).toNat z79) 0) else (none)) else (none)
theorem laws_toGlyphS.mono_l:∀ k,(∀ y0 y1 y2,LeO (laws_toGlyphS.l0 k y0 y1 y2) (laws_toGlyphS.l0 (k+1) y0 y1 y2))
 |0=>fun _ _ _ r h=>by simp [laws_toGlyphS.l0] at h
 |k+1=>by
  have ih0:=laws_toGlyphS.mono_l k
  ·intro y0 y1 y2
   unfold laws_toGlyphS.l0
   repeat' first
   |(with_reducible exact ih0 _ _ _)
   |(with_reducible exact LeO.refl _)
   |(with_reducible exact LeO.none _)
   |(with_reducible refine LeO.ite ?_ ?_)
   |(with_reducible refine LeO.bind ?_ (fun _=>?_))
   |exact ih0 _ _ _
   |exact LeO.none _
   |refine LeO.ite ?_ ?_
   |refine LeO.bind ?_ (fun _=>?_)
theorem laws_toGlyphS.mono:∀ a0 k,LeO (laws_toGlyphS.f k a0) (laws_toGlyphS.f (k+1) a0):=by
 intro a0 k
 have ih0:=laws_toGlyphS.mono_l k
 unfold laws_toGlyphS.f
 repeat' first
   |(with_reducible exact ih0 _ _ _)
   |(with_reducible exact LeO.refl _)
   |(with_reducible exact LeO.none _)
   |(with_reducible refine LeO.ite ?_ ?_)
   |(with_reducible refine LeO.bind ?_ (fun _=>?_))
   |exact ih0 _ _ _
   |exact LeO.none _
   |refine LeO.ite ?_ ?_
   |refine LeO.bind ?_ (fun _=>?_)
set_option maxHeartbeats 8000000 in
set_option maxRecDepth 100000 in
theorem laws_toGlyphS.calls (k:Nat) (A0:Option Addr) (c0:Nat) (l0:List (S86)) (r:List (S79)) (w:World) (hr0:Kd.C k86 w A0 l0.length l0) (hc0:l0.length≤c0) (h:laws_toGlyphS.f k l0=some r) :
  Calls Try.prog 28 #[.slice A0 l0.length c0] w fun e w'=>∃ v0_:Value,e=.returned (v0_)∧Kd.R k79 79 w' w.heap.size (fun _=>True) v0_ r∧Below w.heap.size w w':=by
 have hu86:=Try.underlying86
 have hu79:=Try.underlying79
 have HR0:=Aside0.mk hr0
 have HC0:=Aside0.mk hc0
 clear hr0 hc0
 have HB:=Aside0.mk (Below.refl w.heap.size w)
 have H:(if 0≤(l0.length:Int) then (if ((l0.length:Int):Int).toNat≤17592186044416 then (laws_toGlyphS.l0 k l0 (List.replicate ((l0.length:Int):Int).toNat z79) 0) else (none)) else (none))=some r:=h
 clear h
 by_cases c2:0≤(l0.length:Int)
 ·rw [if_pos c2] at H
  have c2b0:=eq_true c2
  have c2b1:decide (0≤(l0.length:Int))=true:=decide_eq_true c2
  clear c2
  by_cases c3:((l0.length:Int):Int).toNat≤17592186044416
  ·rw [if_pos c3] at H
   have c3b0:=eq_true c3
   have c3b1:decide (((l0.length:Int):Int).toNat≤17592186044416)=true:=decide_eq_true c3
   clear c3
   obtain ⟨y148,hy148⟩:∃ y_:List (S79),y_=(List.replicate ((l0.length:Int):Int).toNat z79):=⟨_,rfl⟩
   replace H:(laws_toGlyphS.l0 k l0 y148 0)=some r:=by first|(rw [hy148];with_reducible exact H)|(have H2_:=(Option.bind_some _ _).symm.trans H;rw [hy148];with_reducible exact H2_)|(have H2_:=(Option.bind_some _ _).symm.trans H;with_reducible exact H2_)|with_reducible exact H|(rw [hy148];exact H)|exact H
   have Ny148:=Aside0.mk hy148
   clear hy148
   have H':=Aside0.mk H
   clear H
   go_enter Try.func28,Try.ntmps28
   go_wp2_with (first|((with_reducible refine gate_dst (N:=7) rfl ?_);refine Kd.R_make k79 _ 79 rfl (N:=7) rfl 30 _ _ rfl (l0.length:Int) rfl rfl Try.underlying30 (.agg #[(.int .i64 0),(.int .i64 0)]) 16 info79 rfl (by decide) (by omega) z79 (ok:=fun _=>True) (okp:=fun _=>True) (k79_mkM _ _ _ z79) (fun _ hk=>hk) trivial (of_decide_eq_true (by first|(with_reducible assumption)|assumption)) (Nat.le_trans (Nat.mul_le_mul_right _ (of_decide_eq_true (by first|(with_reducible assumption)|assumption):(l0.length:Int).toNat≤17592186044416)) (by omega)) (Below.refl _ _) (Nat.le_refl _) ?_;intro v149 w4 ho5 hb hg_ hnew_;clear hg_ hnew_;(first|rw [← Ny148.out] at ho5|(simp only [Int.reduceToNat] at ho5;rw [← Ny148.out] at ho5));have n0_:=Aside0.mk (Kd.R_lower ho5 (below_size (by repeat (first|(with_reducible first|exact HB.out|apply below_alloc|apply pw_below_drewN|apply below_drew1)|exact HB.out))));have n1_:=Aside0.mk (below_step (by repeat (first|(with_reducible first|exact HB.out|apply below_alloc|apply pw_below_drewN|apply below_drew1)|exact HB.out)) hb);clear HB;have HO150:=n0_;have HB:=n1_;clear n0_ n1_;clear hb ho5))
   go_loopg [4] k (fun kq v4 w'=>∃ (x3_1:List (S79)) (x4_1:Int),v4=.int .i64 x4_1∧Aside0 (laws_toGlyphS.l0 kq l0 x3_1 x4_1=some r)∧Aside0 (kq≤k)∧Aside0 (Kd.R k79 79 w' w.heap.size (fun _=>True) v149 x3_1)∧Aside0 (Below w.heap.size w w'))
   case atStart=>exact ⟨(y148),(0),(by first|rfl|(simp;done)|(simp [*];done)),H',⟨Nat.le_refl _⟩,⟨by (with_reducible repeat (first|apply Kd.R_alloc|apply Kd.R_drewN|apply Kd.R_drew));exact HO150.out⟩,⟨by repeat (first|(with_reducible first|exact HB.out|apply below_alloc|apply pw_below_drewN|apply below_drew1)|exact HB.out)⟩⟩
   case round=>
    clear H'
    try clear c2
    try clear c2b0
    try clear c2b1
    try clear p2
    try clear c3
    try clear c3b0
    try clear c3b1
    obtain ⟨x3_1,x4_1,rfl,HA,HK1,HO_3,HB⟩:=hrel
    cases gk with
    |zero=>exact absurd HA.out (by simp [laws_toGlyphS.l0])
    |succ k1=>
     have H:=HA.out
     clear HA
     simp only [laws_toGlyphS.l0] at H
     by_cases c6:x4_1<(l0.length:Int)
     ·rw [if_pos c6] at H
      have c6b0:decide (x4_1<(l0.length:Int))=true:=decide_eq_true c6
      clear c6
      by_cases c7:0≤x4_1
      ·rw [if_pos c7] at H
       have c7b0:decide (0≤x4_1)=true:=decide_eq_true c7
       clear c7
       replace H:=Option.bind_eq_some_iff.mp H
       obtain ⟨⟨t152,t153⟩,A80,H⟩:=H
       replace H:(if x4_1<(x3_1.length:Int) then (laws_toGlyphS.l0 k1 l0 (x3_1.set (x4_1:Int).toNat (⟨t152,t153⟩:S79)) (wrap64 (x4_1+1))) else (none))=some r:=H
       have A8:=Aside0.mk A80
       clear A80
       by_cases c9:x4_1<(x3_1.length:Int)
       ·rw [if_pos c9] at H
        have c9b0:decide (x4_1<(x3_1.length:Int))=true:=decide_eq_true c9
        clear c9
        obtain ⟨y154,hy154⟩:∃ y_:List (S79),y_=(x3_1.set (x4_1:Int).toNat (⟨t152,t153⟩:S79)):=⟨_,rfl⟩
        replace H:(laws_toGlyphS.l0 k1 l0 y154 (wrap64 (x4_1+1)))=some r:=by first|(rw [hy154];with_reducible exact H)|(have H2_:=(Option.bind_some _ _).symm.trans H;rw [hy154];with_reducible exact H2_)|(have H2_:=(Option.bind_some _ _).symm.trans H;with_reducible exact H2_)|with_reducible exact H|(rw [hy154];exact H)|exact H
        have Ny154:=Aside0.mk hy154
        clear hy154
        have H':=Aside0.mk H
        clear H
        have p151:0≤(x4_1:Int):=of_decide_eq_true (by first|(with_reducible assumption)|assumption)
        have q151:x4_1<(l0.length:Int):=of_decide_eq_true (by first|(with_reducible assumption)|assumption)
        obtain ⟨ad151,e151,hx151_0,hx151_1⟩:=at_T86 HR0.out x4_1 p151 q151
        cases e151
        replace hx151_0:=(HB.out.cell (World.block_lt_of_cell? w _ hx151_0)).trans hx151_0
        replace hx151_1:=(HB.out.cell (World.block_lt_of_cell? w _ hx151_1)).trans hx151_1
        replace p151:=eq_true p151
        replace q151:=eq_true q151
        go_wp2_with (first|((with_reducible refine gate_callee (f:=54) rfl ?_);refine goesL_ (some 20) rfl rfl Try.func54 (by kernel_rfl) rfl #[.agg #[.int .i64 ((rd_T86 l0 x4_1).f0),.int .i64 ((rd_T86 l0 x4_1).f1)]] rfl (by (try simp only [List.map_toArray,List.map_cons,List.map_nil]);first|done|rfl|(simp only [List.length_drop,List.length_take];rfl)) ?_;(with_reducible refine (laws_toGlyph.calls ((rd_T86 l0 x4_1).f0) ((rd_T86 l0 x4_1).f1) t152 t153 _ A8.out).mono ?_);rintro e w11 ⟨rfl,hb⟩;refine ⟨_,rfl,?_⟩;have n0_:=Aside0.mk (Kd.R_below (by (with_reducible repeat (first|apply Kd.R_alloc|apply Kd.R_drewN|apply Kd.R_drew));exact HO_3.out) hb);have n1_:=Aside0.mk (below_step (by repeat (first|(with_reducible first|exact HB.out|apply below_alloc|apply pw_below_drewN|apply below_drew1)|exact HB.out)) hb);clear HO_3;clear HB;have HO_3:=n0_;have HB:=n1_;clear n0_ n1_;(try clear hb);(try clear hb2);(try clear hk);(try clear hi);have p10:0≤(x4_1:Int):=of_decide_eq_true (by first|(with_reducible assumption)|assumption);have q10:(x4_1:Int)<((x3_1.length:Int):Int):=of_decide_eq_true (by first|(with_reducible assumption)|assumption);obtain ⟨go10,co10,eo10,gb10,gl10,cl10,HG10⟩:=Kd.R_form HO_3.out (by omega);(first|cases eo10|(injection eo10 with ea_ en_ ec_;(first|subst ea_|(injection ea_ with ea_;subst ea_));subst ec_;clear en_));have GB10:=Aside0.mk gb10;have GG10:=Aside0.mk HG10;clear gb10 gl10 HG10;obtain ⟨ce10,hcl10,hM10,hcc10,hfr10⟩:=Kd.R_elem HO_3.out z79 (x4_1:Int) p10 q10;obtain rfl:=k79_openM hM10;have hx10_0:w11.cell? ⟨go10,(x4_1:Int).toNat*2,none⟩=some (.int .i64 ((rd_T79 x3_1 x4_1).f0)):=hcc10 0 _ rfl;have hx10_1:w11.cell? ⟨go10,(x4_1:Int).toNat*2+1,none⟩=some (.int .i64 ((rd_T79 x3_1 x4_1).f1)):=hcc10 1 _ rfl;have hf10_0:w11.frozen? ⟨go10,(x4_1:Int).toNat*2,none⟩=false:=hfr10 0;have hf10_1:w11.frozen? ⟨go10,(x4_1:Int).toNat*2+1,none⟩=false:=hfr10 1;clear hcl10 hcc10 hfr10 hM10;replace p10:=eq_true p10;replace q10:=eq_true q10;have HX12:=Aside0.mk (show Kd.R k79 79 w11 w.heap.size (fun _=>True) (.slice (some ⟨go10,0,none⟩) x3_1.length co10) x3_1 from (by (with_reducible repeat (first|apply Kd.R_alloc|apply Kd.R_drewN|apply Kd.R_drew));exact HO_3.out));obtain ⟨ce12,hcl12,hM12,hcc12,hfr12⟩:=Kd.R_elem HX12.out z79 (x4_1:Int) (of_decide_eq_true (by first|(with_reducible assumption)|assumption)) (by have h_:(x4_1:Int)<((x3_1.length:Int):Int):=of_decide_eq_true (by first|(with_reducible assumption)|assumption);first|exact h_|(have e_:=(Kd.R_reads' HO_3.out).1;omega)|simpa using h_);obtain rfl:=k79_openM hM12;have HP12:=Kd.R_seg HX12.out (x4_1:Int) (of_decide_eq_true (by first|(with_reducible assumption)|assumption)) (by have h_:(x4_1:Int)<((x3_1.length:Int):Int):=of_decide_eq_true (by first|(with_reducible assumption)|assumption);first|exact h_|(have e_:=(Kd.R_reads' HO_3.out).1;omega)|simpa using h_) (seg:=[.int .i64 t152,.int .i64 t153]) (j:=0) hcl12 hcc12 (show 2≤2 from by decide) (x':=(⟨t152,t153⟩:S79)) (k79_mkM _ _ _ (⟨t152,t153⟩:S79)) (fun _ hk=>hk);have hx12_0:=hcc12 0 _ rfl;(try simp only [show (k79).sz=2 from rfl,Nat.mul_one,Nat.add_zero] at hx12_0);have hf12_0:=hfr12 0;(try simp only [show (k79).sz=2 from rfl,Nat.mul_one,Nat.add_zero] at hf12_0);have hx12_1:=hcc12 1 _ rfl;(try simp only [show (k79).sz=2 from rfl,Nat.mul_one,Nat.add_zero] at hx12_1);have hf12_1:=hfr12 1;(try simp only [show (k79).sz=2 from rfl,Nat.mul_one,Nat.add_zero] at hf12_1);clear hcl12 hcc12 hfr12 hM12)|((with_reducible refine gate_store (t:=79) (p:=21) rfl ?_);refine store_event (t:=79) (p:=21) (v:=?vo_w13) (w1:=((w11.setCell ⟨go10,(x4_1:Int).toNat*2,none⟩ (.int .i64 t152)).setCell ⟨go10,(x4_1:Int).toNat*2+1,none⟩ (.int .i64 t153))) ?hg ?ho ?hn ?hr ?_;(case ho=>rfl);(case hg=>rfl);(case hn=>rfl);(case hr=>first|(go_simp;done)|(go_simp;rfl));intro w13 hw;have hg:w11.grownBy w13 (some go10):=(by rw [hw];exact HP12.2);have hp_:Kd.R k79 79 w13 w.heap.size (fun _=>True) (.slice (some ⟨go10,0,none⟩) x3_1.length co10) y154:=(by rw [hw,Ny154.out];exact HP12.1);clear HP12;have n0_:=Aside0.mk (hp_);have n1_:=Aside0.mk ((by rw [hw];exact below_set (below_set (HB.out) GB10.out) GB10.out:Below w.heap.size w w13));clear HO_3;clear HB;have HO_3:=n0_;have HB:=n1_;clear n0_ n1_;clear hg hw hp_))
        go_roundg k1
        case measure=>have:=HK1.out;omega
        case rel=>exact ⟨(y154),(wrap64 (x4_1+1)),(by first|rfl|(simp;done)|(simp [*];done)),H',⟨by have:=HK1.out;omega⟩,⟨by (with_reducible repeat (first|apply Kd.R_alloc|apply Kd.R_drewN|apply Kd.R_drew));exact HO_3.out⟩,⟨by repeat (first|(with_reducible first|exact HB.out|apply below_alloc|apply pw_below_drewN|apply below_drew1)|exact HB.out)⟩⟩
       ·rw [if_neg c9] at H
        exact absurd H (by simp)
      ·rw [if_neg c7] at H
       exact absurd H (by simp)
     ·rw [if_neg c6] at H
      have c6b0:decide (x4_1<(l0.length:Int))=false:=decide_eq_false c6
      clear c6
      obtain rfl:=Option.some.inj H
      go_wp2
      go_ret
      exact ⟨_,by first|rfl|(simp [errW_none,errW_some]<;>rfl)|(simp [*,errW_none,errW_some]<;>rfl),by (with_reducible repeat (first|apply Kd.R_alloc|apply Kd.R_drewN|apply Kd.R_drew));exact HO_3.out,by repeat (first|(with_reducible first|exact HB.out|apply below_alloc|apply pw_below_drewN|apply below_drew1)|exact HB.out)⟩
  ·rw [if_neg c3] at H
   exact absurd H (by simp)
 ·rw [if_neg c2] at H
  exact absurd H (by simp)
/-! ### laws_toKern: function 55 -/
def laws_toKern.f (a0_0:Int) (a0_1:Int) (a0_2:Int):Option (Int×Int×Int):=some (a0_0,a0_1,a0_2)
set_option maxHeartbeats 8000000 in
set_option maxRecDepth 100000 in
theorem laws_toKern.calls (a0_0:Int) (a0_1:Int) (a0_2:Int) (r1:Int) (r2:Int) (r3:Int) (w:World) (h:laws_toKern.f a0_0 a0_1 a0_2=some (r1,r2,r3)) :
  Calls Try.prog 55 #[.agg #[.int .i64 a0_0,.int .i64 a0_1,.int .i64 a0_2]] w fun e w'=>e=.returned (.agg #[.int .i64 r1,.int .i64 r2,.int .i64 r3])∧Below w.heap.size w w':=by
 have hu88:=Try.underlying88
 have hu81:=Try.underlying81
 have HB:=Aside0.mk (Below.refl w.heap.size w)
 have H:(some (a0_0,a0_1,a0_2))=some (r1,r2,r3):=h
 clear h
 simp only [Option.some.injEq,Prod.mk.injEq] at H
 obtain ⟨rfl,rfl,rfl⟩:=H
 go_enter Try.func55,Try.ntmps55
 go_wp2_with (first|((with_reducible refine gate_dst (N:=1) rfl ?_);refine box_event ?hg (N:=1) ?hd (cs:=#[.int .i64 a0_0,.int .i64 a0_1,.int .i64 a0_2]) (t:=88) ?hr ?_;(case hd=>rfl);(case hg=>rfl);(case hr=>first|(go_simp;done)|(go_simp;rfl));intro gb155 hg w2 hbox hb;have n0_:=Aside0.mk (below_step (by repeat (first|(with_reducible first|exact HB.out|apply below_alloc|apply pw_below_drewN|apply below_drew1)|exact HB.out)) hb);have n1_:=Aside0.mk (hbox);have n2_:=Aside0.mk ((by rw [hg];exact (below_size (by repeat (first|(with_reducible first|exact HB.out|apply below_alloc|apply pw_below_drewN|apply below_drew1)|exact HB.out))):w.heap.size≤gb155));have n3_:=Aside0.mk ((by rw [hg];exact (below_size (by repeat (first|(with_reducible first|exact HB.out|apply below_alloc|apply pw_below_drewN|apply below_drew1)|exact HB.out))):w.heap.size≤gb155));clear HB;have HB:=n0_;have BK155:=n1_;have GW155:=n2_;have GE155:=n3_;clear n0_ n1_ n2_ n3_;clear hb hbox hg)|((with_reducible refine gate_dst (N:=2) rfl ?_);refine box_event ?hg (N:=2) ?hd (cs:=#[.int .i64 0,.int .i64 0,.int .i64 0]) (t:=81) ?hr ?_;(case hd=>rfl);(case hg=>rfl);(case hr=>first|(go_simp;done)|(go_simp;rfl));intro gb156 hg w3 hbox hb;have n0_:=Aside0.mk (blk_below (g:=gb155) (o:=.cells #[.int .i64 a0_0,.int .i64 a0_1,.int .i64 a0_2] 88 (0,0)) (by (with_reducible repeat (first|refine blk_drewN ?_ _|refine blk_drew ?_|refine blk_alloc ?_ _));exact BK155.out) hb);have n1_:=Aside0.mk (below_step (by repeat (first|(with_reducible first|exact HB.out|apply below_alloc|apply pw_below_drewN|apply below_drew1|refine below_set ?_ GE155.out)|exact HB.out)) hb);have n2_:=Aside0.mk (hbox);have n3_:=Aside0.mk ((by rw [hg];exact (below_size (by repeat (first|(with_reducible first|exact HB.out|apply below_alloc|apply pw_below_drewN|apply below_drew1|refine below_set ?_ GE155.out)|exact HB.out))):w.heap.size≤gb156));have n4_:=Aside0.mk ((by rw [hg];exact (below_size (by repeat (first|(with_reducible first|exact HB.out|apply below_alloc|apply pw_below_drewN|apply below_drew1|refine below_set ?_ GE155.out)|exact HB.out))):w.heap.size≤gb156));have n5_:=Aside0.mk ((by rw [hg];exact Nat.ne_of_lt (blk_lt (g:=gb155) (o:=.cells #[.int .i64 a0_0,.int .i64 a0_1,.int .i64 a0_2] 88 (0,0)) (by (with_reducible repeat (first|refine blk_drewN ?_ _|refine blk_drew ?_|refine blk_alloc ?_ _));exact BK155.out)):gb155≠gb156));have n6_:=Aside0.mk ((by rw [hg];exact Nat.ne_of_gt (blk_lt (g:=gb155) (o:=.cells #[.int .i64 a0_0,.int .i64 a0_1,.int .i64 a0_2] 88 (0,0)) (by (with_reducible repeat (first|refine blk_drewN ?_ _|refine blk_drew ?_|refine blk_alloc ?_ _));exact BK155.out)):gb156≠gb155));clear BK155;clear HB;have BK155:=n0_;have HB:=n1_;have BK156:=n2_;have GW156:=n3_;have GE156:=n4_;have NB155_156:=n5_;have NB156_155:=n6_;clear n0_ n1_ n2_ n3_ n4_ n5_ n6_;clear hb hbox hg)|((with_reducible refine gate_dst (N:=3) rfl ?_);refine box_event ?hg (N:=3) ?hd (cs:=#[.int .i64 0,.int .i64 0,.int .i64 0]) (t:=81) ?hr ?_;(case hd=>rfl);(case hg=>rfl);(case hr=>first|(go_simp;done)|(go_simp;rfl));intro gb157 hg w4 hbox hb;have n0_:=Aside0.mk (blk_below (g:=gb155) (o:=.cells #[.int .i64 a0_0,.int .i64 a0_1,.int .i64 a0_2] 88 (0,0)) (by (with_reducible repeat (first|refine blk_drewN ?_ _|refine blk_drew ?_|refine blk_alloc ?_ _));exact BK155.out) hb);have n1_:=Aside0.mk (blk_below (g:=gb156) (o:=.cells #[.int .i64 0,.int .i64 0,.int .i64 0] 81 (0,0)) (by (with_reducible repeat (first|refine blk_drewN ?_ _|refine blk_drew ?_|refine blk_alloc ?_ _));exact BK156.out) hb);have n2_:=Aside0.mk (below_step (by repeat (first|(with_reducible first|exact HB.out|apply below_alloc|apply pw_below_drewN|apply below_drew1|refine below_set ?_ GE155.out|refine below_set ?_ GE156.out)|exact HB.out)) hb);have n3_:=Aside0.mk (hbox);have n4_:=Aside0.mk ((by rw [hg];exact (below_size (by repeat (first|(with_reducible first|exact HB.out|apply below_alloc|apply pw_below_drewN|apply below_drew1|refine below_set ?_ GE155.out|refine below_set ?_ GE156.out)|exact HB.out))):w.heap.size≤gb157));have n5_:=Aside0.mk ((by rw [hg];exact (below_size (by repeat (first|(with_reducible first|exact HB.out|apply below_alloc|apply pw_below_drewN|apply below_drew1|refine below_set ?_ GE155.out|refine below_set ?_ GE156.out)|exact HB.out))):w.heap.size≤gb157));have n6_:=Aside0.mk ((by rw [hg];exact Nat.ne_of_lt (blk_lt (g:=gb155) (o:=.cells #[.int .i64 a0_0,.int .i64 a0_1,.int .i64 a0_2] 88 (0,0)) (by (with_reducible repeat (first|refine blk_drewN ?_ _|refine blk_drew ?_|refine blk_alloc ?_ _));exact BK155.out)):gb155≠gb157));have n7_:=Aside0.mk ((by rw [hg];exact Nat.ne_of_gt (blk_lt (g:=gb155) (o:=.cells #[.int .i64 a0_0,.int .i64 a0_1,.int .i64 a0_2] 88 (0,0)) (by (with_reducible repeat (first|refine blk_drewN ?_ _|refine blk_drew ?_|refine blk_alloc ?_ _));exact BK155.out)):gb157≠gb155));have n8_:=Aside0.mk ((by rw [hg];exact Nat.ne_of_lt (blk_lt (g:=gb156) (o:=.cells #[.int .i64 0,.int .i64 0,.int .i64 0] 81 (0,0)) (by (with_reducible repeat (first|refine blk_drewN ?_ _|refine blk_drew ?_|refine blk_alloc ?_ _));exact BK156.out)):gb156≠gb157));have n9_:=Aside0.mk ((by rw [hg];exact Nat.ne_of_gt (blk_lt (g:=gb156) (o:=.cells #[.int .i64 0,.int .i64 0,.int .i64 0] 81 (0,0)) (by (with_reducible repeat (first|refine blk_drewN ?_ _|refine blk_drew ?_|refine blk_alloc ?_ _));exact BK156.out)):gb157≠gb156));clear BK155;clear BK156;clear HB;have BK155:=n0_;have BK156:=n1_;have HB:=n2_;have BK157:=n3_;have GW157:=n4_;have GE157:=n5_;have NB155_157:=n6_;have NB157_155:=n7_;have NB156_157:=n8_;have NB157_156:=n9_;clear n0_ n1_ n2_ n3_ n4_ n5_ n6_ n7_ n8_ n9_;clear hb hbox hg;have hnb5:=NB155_156.out;have hnc5:=NB156_155.out;have hnb6:=NB155_157.out;have hnc6:=NB157_155.out;have hcz7_0:w4.cell? ⟨gb155,0,none⟩=some (.int .i64 a0_0):=(blk_cell BK155.out 0).trans rfl;have hcz7_1:w4.cell? ⟨gb155,1,none⟩=some (.int .i64 a0_1):=(blk_cell BK155.out 1).trans rfl;have hcz7_2:w4.cell? ⟨gb155,2,none⟩=some (.int .i64 a0_2):=(blk_cell BK155.out 2).trans rfl;have hfz7_0:=blk_frozen BK155.out 0;have hfz7_1:=blk_frozen BK155.out 1;have hfz7_2:=blk_frozen BK155.out 2;have hnb8:=NB157_156.out;have hnc8:=NB156_157.out;have hcz9_0:w4.cell? ⟨gb157,0,none⟩=some (.int .i64 0):=(blk_cell BK157.out 0).trans rfl;have hcz9_1:w4.cell? ⟨gb157,1,none⟩=some (.int .i64 0):=(blk_cell BK157.out 1).trans rfl;have hcz9_2:w4.cell? ⟨gb157,2,none⟩=some (.int .i64 0):=(blk_cell BK157.out 2).trans rfl;have hfz9_0:=blk_frozen BK157.out 0;have hfz9_1:=blk_frozen BK157.out 1;have hfz9_2:=blk_frozen BK157.out 2;have hcz10_0:w4.cell? ⟨gb156,0,none⟩=some (.int .i64 0):=(blk_cell BK156.out 0).trans rfl;have hcz10_1:w4.cell? ⟨gb156,1,none⟩=some (.int .i64 0):=(blk_cell BK156.out 1).trans rfl;have hcz10_2:w4.cell? ⟨gb156,2,none⟩=some (.int .i64 0):=(blk_cell BK156.out 2).trans rfl;have hfz10_0:=blk_frozen BK156.out 0;have hfz10_1:=blk_frozen BK156.out 1;have hfz10_2:=blk_frozen BK156.out 2))
 refine bodyPost_ret (results_cell_row rfl _ _ gb156 81 #[.int .i64 a0_0,.int .i64 a0_1,.int .i64 a0_2] (0,0) _ rfl (by (with_reducible repeat (first|refine blk_drewN ?_ _|refine blk_drew ?_|refine blk_alloc ?_ _));refine blk_put (cs:=#[.int .i64 a0_0,.int .i64 a0_1,.int .i64 0]) ?_ 2 _ rfl;(with_reducible repeat (first|refine blk_drewN ?_ _|refine blk_drew ?_|refine blk_alloc ?_ _));refine blk_put (cs:=#[.int .i64 a0_0,.int .i64 0,.int .i64 0]) ?_ 1 _ rfl;(with_reducible repeat (first|refine blk_drewN ?_ _|refine blk_drew ?_|refine blk_alloc ?_ _));refine blk_put (cs:=#[.int .i64 0,.int .i64 0,.int .i64 0]) ?_ 0 _ rfl;(with_reducible repeat (first|refine blk_drewN ?_ _|refine blk_drew ?_|refine blk_alloc ?_ _));refine blk_far ?_ NB156_157.out _;(with_reducible repeat (first|refine blk_drewN ?_ _|refine blk_drew ?_|refine blk_alloc ?_ _));refine blk_far ?_ NB156_157.out _;(with_reducible repeat (first|refine blk_drewN ?_ _|refine blk_drew ?_|refine blk_alloc ?_ _));refine blk_far ?_ NB156_157.out _;(with_reducible repeat (first|refine blk_drewN ?_ _|refine blk_drew ?_|refine blk_alloc ?_ _));exact BK156.out) Try.underlying81 rfl (by kernel_rfl)) rfl ?_
 exact ⟨by first|rfl|(simp [errW_none,errW_some]<;>rfl)|(simp [*,errW_none,errW_some]<;>rfl),by repeat (first|(with_reducible first|exact HB.out|apply below_alloc|apply pw_below_drewN|apply below_drew1|refine below_set ?_ GE155.out|refine below_set ?_ GE156.out|refine below_set ?_ GE157.out)|exact HB.out)⟩
/-! ### laws_toKernS: function 29 -/
def laws_toKernS.l0:Nat→List (S88)→List (S81)→Int→Option ((List (S81)))
 |0,_,_,_=>none
 |k+1,x0,x3,x4=>if x4<(x0.length:Int) then (if 0≤x4 then ((laws_toKern.f ((rd_T88 x0 x4).f0) ((rd_T88 x0 x4).f1) ((rd_T88 x0 x4).f2)).bind fun bt162=>(if x4<(x3.length:Int) then (laws_toKernS.l0 k x0 (x3.set (x4:Int).toNat (⟨bt162.1,bt162.2.1,bt162.2.2⟩:S81)) (wrap64 (x4+1))) else (none))) else (none)) else (some x3)
def laws_toKernS.f (k:Nat) (l0:List (S88)):Option ((List (S81))):=if 0≤(l0.length:Int) then (if ((l0.length:Int):Int).toNat≤11728124029610 then (laws_toKernS.l0 k l0 (List.replicate ((l0.length:Int):Int).toNat z81) 0) else (none)) else (none)
theorem laws_toKernS.mono_l:∀ k,(∀ y0 y1 y2,LeO (laws_toKernS.l0 k y0 y1 y2) (laws_toKernS.l0 (k+1) y0 y1 y2))
 |0=>fun _ _ _ r h=>by simp [laws_toKernS.l0] at h
 |k+1=>by
  have ih0:=laws_toKernS.mono_l k
  ·intro y0 y1 y2
   unfold laws_toKernS.l0
   repeat' first
   |(with_reducible exact ih0 _ _ _)
   |(with_reducible exact LeO.refl _)
   |(with_reducible exact LeO.none _)
   |(with_reducible refine LeO.ite ?_ ?_)
   |(with_reducible refine LeO.bind ?_ (fun _=>?_))
   |exact ih0 _ _ _
   |exact LeO.none _
   |refine LeO.ite ?_ ?_
   |refine LeO.bind ?_ (fun _=>?_)
theorem laws_toKernS.mono:∀ a0 k,LeO (laws_toKernS.f k a0) (laws_toKernS.f (k+1) a0):=by
 intro a0 k
 have ih0:=laws_toKernS.mono_l k
 unfold laws_toKernS.f
 repeat' first
   |(with_reducible exact ih0 _ _ _)
   |(with_reducible exact LeO.refl _)
   |(with_reducible exact LeO.none _)
   |(with_reducible refine LeO.ite ?_ ?_)
   |(with_reducible refine LeO.bind ?_ (fun _=>?_))
   |exact ih0 _ _ _
   |exact LeO.none _
   |refine LeO.ite ?_ ?_
   |refine LeO.bind ?_ (fun _=>?_)
set_option maxHeartbeats 8000000 in
set_option maxRecDepth 100000 in
theorem laws_toKernS.calls (k:Nat) (A0:Option Addr) (c0:Nat) (l0:List (S88)) (r:List (S81)) (w:World) (hr0:Kd.C k88 w A0 l0.length l0) (hc0:l0.length≤c0) (h:laws_toKernS.f k l0=some r) :
  Calls Try.prog 29 #[.slice A0 l0.length c0] w fun e w'=>∃ v0_:Value,e=.returned (v0_)∧Kd.R k81 81 w' w.heap.size (fun _=>True) v0_ r∧Below w.heap.size w w':=by
 have hu88:=Try.underlying88
 have hu81:=Try.underlying81
 have HR0:=Aside0.mk hr0
 have HC0:=Aside0.mk hc0
 clear hr0 hc0
 have HB:=Aside0.mk (Below.refl w.heap.size w)
 have H:(if 0≤(l0.length:Int) then (if ((l0.length:Int):Int).toNat≤11728124029610 then (laws_toKernS.l0 k l0 (List.replicate ((l0.length:Int):Int).toNat z81) 0) else (none)) else (none))=some r:=h
 clear h
 by_cases c2:0≤(l0.length:Int)
 ·rw [if_pos c2] at H
  have c2b0:=eq_true c2
  have c2b1:decide (0≤(l0.length:Int))=true:=decide_eq_true c2
  clear c2
  by_cases c3:((l0.length:Int):Int).toNat≤11728124029610
  ·rw [if_pos c3] at H
   have c3b0:=eq_true c3
   have c3b1:decide (((l0.length:Int):Int).toNat≤11728124029610)=true:=decide_eq_true c3
   clear c3
   obtain ⟨y158,hy158⟩:∃ y_:List (S81),y_=(List.replicate ((l0.length:Int):Int).toNat z81):=⟨_,rfl⟩
   replace H:(laws_toKernS.l0 k l0 y158 0)=some r:=by first|(rw [hy158];with_reducible exact H)|(have H2_:=(Option.bind_some _ _).symm.trans H;rw [hy158];with_reducible exact H2_)|(have H2_:=(Option.bind_some _ _).symm.trans H;with_reducible exact H2_)|with_reducible exact H|(rw [hy158];exact H)|exact H
   have Ny158:=Aside0.mk hy158
   clear hy158
   have H':=Aside0.mk H
   clear H
   go_enter Try.func29,Try.ntmps29
   go_wp2_with (first|((with_reducible refine gate_dst (N:=7) rfl ?_);refine Kd.R_make k81 _ 81 rfl (N:=7) rfl 31 _ _ rfl (l0.length:Int) rfl rfl Try.underlying31 (.agg #[(.int .i64 0),(.int .i64 0),(.int .i64 0)]) 24 info81 rfl (by decide) (by omega) z81 (ok:=fun _=>True) (okp:=fun _=>True) (k81_mkM _ _ _ z81) (fun _ hk=>hk) trivial (of_decide_eq_true (by first|(with_reducible assumption)|assumption)) (Nat.le_trans (Nat.mul_le_mul_right _ (of_decide_eq_true (by first|(with_reducible assumption)|assumption):(l0.length:Int).toNat≤11728124029610)) (by omega)) (Below.refl _ _) (Nat.le_refl _) ?_;intro v159 w4 ho5 hb hg_ hnew_;clear hg_ hnew_;(first|rw [← Ny158.out] at ho5|(simp only [Int.reduceToNat] at ho5;rw [← Ny158.out] at ho5));have n0_:=Aside0.mk (Kd.R_lower ho5 (below_size (by repeat (first|(with_reducible first|exact HB.out|apply below_alloc|apply pw_below_drewN|apply below_drew1)|exact HB.out))));have n1_:=Aside0.mk (below_step (by repeat (first|(with_reducible first|exact HB.out|apply below_alloc|apply pw_below_drewN|apply below_drew1)|exact HB.out)) hb);clear HB;have HO160:=n0_;have HB:=n1_;clear n0_ n1_;clear hb ho5))
   go_loopg [4] k (fun kq v4 w'=>∃ (x3_1:List (S81)) (x4_1:Int),v4=.int .i64 x4_1∧Aside0 (laws_toKernS.l0 kq l0 x3_1 x4_1=some r)∧Aside0 (kq≤k)∧Aside0 (Kd.R k81 81 w' w.heap.size (fun _=>True) v159 x3_1)∧Aside0 (Below w.heap.size w w'))
   case atStart=>exact ⟨(y158),(0),(by first|rfl|(simp;done)|(simp [*];done)),H',⟨Nat.le_refl _⟩,⟨by (with_reducible repeat (first|apply Kd.R_alloc|apply Kd.R_drewN|apply Kd.R_drew));exact HO160.out⟩,⟨by repeat (first|(with_reducible first|exact HB.out|apply below_alloc|apply pw_below_drewN|apply below_drew1)|exact HB.out)⟩⟩
   case round=>
    clear H'
    try clear c2
    try clear c2b0
    try clear c2b1
    try clear p2
    try clear c3
    try clear c3b0
    try clear c3b1
    obtain ⟨x3_1,x4_1,rfl,HA,HK1,HO_3,HB⟩:=hrel
    cases gk with
    |zero=>exact absurd HA.out (by simp [laws_toKernS.l0])
    |succ k1=>
     have H:=HA.out
     clear HA
     simp only [laws_toKernS.l0] at H
     by_cases c6:x4_1<(l0.length:Int)
     ·rw [if_pos c6] at H
      have c6b0:decide (x4_1<(l0.length:Int))=true:=decide_eq_true c6
      clear c6
      by_cases c7:0≤x4_1
      ·rw [if_pos c7] at H
       have c7b0:decide (0≤x4_1)=true:=decide_eq_true c7
       clear c7
       replace H:=Option.bind_eq_some_iff.mp H
       obtain ⟨⟨t162,t163,t164⟩,A80,H⟩:=H
       replace H:(if x4_1<(x3_1.length:Int) then (laws_toKernS.l0 k1 l0 (x3_1.set (x4_1:Int).toNat (⟨t162,t163,t164⟩:S81)) (wrap64 (x4_1+1))) else (none))=some r:=H
       have A8:=Aside0.mk A80
       clear A80
       by_cases c9:x4_1<(x3_1.length:Int)
       ·rw [if_pos c9] at H
        have c9b0:decide (x4_1<(x3_1.length:Int))=true:=decide_eq_true c9
        clear c9
        obtain ⟨y165,hy165⟩:∃ y_:List (S81),y_=(x3_1.set (x4_1:Int).toNat (⟨t162,t163,t164⟩:S81)):=⟨_,rfl⟩
        replace H:(laws_toKernS.l0 k1 l0 y165 (wrap64 (x4_1+1)))=some r:=by first|(rw [hy165];with_reducible exact H)|(have H2_:=(Option.bind_some _ _).symm.trans H;rw [hy165];with_reducible exact H2_)|(have H2_:=(Option.bind_some _ _).symm.trans H;with_reducible exact H2_)|with_reducible exact H|(rw [hy165];exact H)|exact H
        have Ny165:=Aside0.mk hy165
        clear hy165
        have H':=Aside0.mk H
        clear H
        have p161:0≤(x4_1:Int):=of_decide_eq_true (by first|(with_reducible assumption)|assumption)
        have q161:x4_1<(l0.length:Int):=of_decide_eq_true (by first|(with_reducible assumption)|assumption)
        obtain ⟨ad161,e161,hx161_0,hx161_1,hx161_2⟩:=at_T88 HR0.out x4_1 p161 q161
        cases e161
        replace hx161_0:=(HB.out.cell (World.block_lt_of_cell? w _ hx161_0)).trans hx161_0
        replace hx161_1:=(HB.out.cell (World.block_lt_of_cell? w _ hx161_1)).trans hx161_1
        replace hx161_2:=(HB.out.cell (World.block_lt_of_cell? w _ hx161_2)).trans hx161_2
        replace p161:=eq_true p161
        replace q161:=eq_true q161
        go_wp2_with (first|((with_reducible refine gate_callee (f:=55) rfl ?_);refine goesL_ (some 20) rfl rfl Try.func55 (by kernel_rfl) rfl #[.agg #[.int .i64 ((rd_T88 l0 x4_1).f0),.int .i64 ((rd_T88 l0 x4_1).f1),.int .i64 ((rd_T88 l0 x4_1).f2)]] rfl (by (try simp only [List.map_toArray,List.map_cons,List.map_nil]);first|done|rfl|(simp only [List.length_drop,List.length_take];rfl)) ?_;(with_reducible refine (laws_toKern.calls ((rd_T88 l0 x4_1).f0) ((rd_T88 l0 x4_1).f1) ((rd_T88 l0 x4_1).f2) t162 t163 t164 _ A8.out).mono ?_);rintro e w11 ⟨rfl,hb⟩;refine ⟨_,rfl,?_⟩;have n0_:=Aside0.mk (Kd.R_below (by (with_reducible repeat (first|apply Kd.R_alloc|apply Kd.R_drewN|apply Kd.R_drew));exact HO_3.out) hb);have n1_:=Aside0.mk (below_step (by repeat (first|(with_reducible first|exact HB.out|apply below_alloc|apply pw_below_drewN|apply below_drew1)|exact HB.out)) hb);clear HO_3;clear HB;have HO_3:=n0_;have HB:=n1_;clear n0_ n1_;(try clear hb);(try clear hb2);(try clear hk);(try clear hi);have p10:0≤(x4_1:Int):=of_decide_eq_true (by first|(with_reducible assumption)|assumption);have q10:(x4_1:Int)<((x3_1.length:Int):Int):=of_decide_eq_true (by first|(with_reducible assumption)|assumption);obtain ⟨go10,co10,eo10,gb10,gl10,cl10,HG10⟩:=Kd.R_form HO_3.out (by omega);(first|cases eo10|(injection eo10 with ea_ en_ ec_;(first|subst ea_|(injection ea_ with ea_;subst ea_));subst ec_;clear en_));have GB10:=Aside0.mk gb10;have GG10:=Aside0.mk HG10;clear gb10 gl10 HG10;obtain ⟨ce10,hcl10,hM10,hcc10,hfr10⟩:=Kd.R_elem HO_3.out z81 (x4_1:Int) p10 q10;obtain rfl:=k81_openM hM10;have hx10_0:w11.cell? ⟨go10,(x4_1:Int).toNat*3,none⟩=some (.int .i64 ((rd_T81 x3_1 x4_1).f0)):=hcc10 0 _ rfl;have hx10_1:w11.cell? ⟨go10,(x4_1:Int).toNat*3+1,none⟩=some (.int .i64 ((rd_T81 x3_1 x4_1).f1)):=hcc10 1 _ rfl;have hx10_2:w11.cell? ⟨go10,(x4_1:Int).toNat*3+2,none⟩=some (.int .i64 ((rd_T81 x3_1 x4_1).f2)):=hcc10 2 _ rfl;have hf10_0:w11.frozen? ⟨go10,(x4_1:Int).toNat*3,none⟩=false:=hfr10 0;have hf10_1:w11.frozen? ⟨go10,(x4_1:Int).toNat*3+1,none⟩=false:=hfr10 1;have hf10_2:w11.frozen? ⟨go10,(x4_1:Int).toNat*3+2,none⟩=false:=hfr10 2;clear hcl10 hcc10 hfr10 hM10;replace p10:=eq_true p10;replace q10:=eq_true q10;have HX12:=Aside0.mk (show Kd.R k81 81 w11 w.heap.size (fun _=>True) (.slice (some ⟨go10,0,none⟩) x3_1.length co10) x3_1 from (by (with_reducible repeat (first|apply Kd.R_alloc|apply Kd.R_drewN|apply Kd.R_drew));exact HO_3.out));obtain ⟨ce12,hcl12,hM12,hcc12,hfr12⟩:=Kd.R_elem HX12.out z81 (x4_1:Int) (of_decide_eq_true (by first|(with_reducible assumption)|assumption)) (by have h_:(x4_1:Int)<((x3_1.length:Int):Int):=of_decide_eq_true (by first|(with_reducible assumption)|assumption);first|exact h_|(have e_:=(Kd.R_reads' HO_3.out).1;omega)|simpa using h_);obtain rfl:=k81_openM hM12;have HP12:=Kd.R_seg HX12.out (x4_1:Int) (of_decide_eq_true (by first|(with_reducible assumption)|assumption)) (by have h_:(x4_1:Int)<((x3_1.length:Int):Int):=of_decide_eq_true (by first|(with_reducible assumption)|assumption);first|exact h_|(have e_:=(Kd.R_reads' HO_3.out).1;omega)|simpa using h_) (seg:=[.int .i64 t162,.int .i64 t163,.int .i64 t164]) (j:=0) hcl12 hcc12 (show 3≤3 from by decide) (x':=(⟨t162,t163,t164⟩:S81)) (k81_mkM _ _ _ (⟨t162,t163,t164⟩:S81)) (fun _ hk=>hk);have hx12_0:=hcc12 0 _ rfl;(try simp only [show (k81).sz=3 from rfl,Nat.mul_one,Nat.add_zero] at hx12_0);have hf12_0:=hfr12 0;(try simp only [show (k81).sz=3 from rfl,Nat.mul_one,Nat.add_zero] at hf12_0);have hx12_1:=hcc12 1 _ rfl;(try simp only [show (k81).sz=3 from rfl,Nat.mul_one,Nat.add_zero] at hx12_1);have hf12_1:=hfr12 1;(try simp only [show (k81).sz=3 from rfl,Nat.mul_one,Nat.add_zero] at hf12_1);have hx12_2:=hcc12 2 _ rfl;(try simp only [show (k81).sz=3 from rfl,Nat.mul_one,Nat.add_zero] at hx12_2);have hf12_2:=hfr12 2;(try simp only [show (k81).sz=3 from rfl,Nat.mul_one,Nat.add_zero] at hf12_2);clear hcl12 hcc12 hfr12 hM12)|((with_reducible refine gate_store (t:=81) (p:=21) rfl ?_);refine store_event (t:=81) (p:=21) (v:=?vo_w13) (w1:=(((w11.setCell ⟨go10,(x4_1:Int).toNat*3,none⟩ (.int .i64 t162)).setCell ⟨go10,(x4_1:Int).toNat*3+1,none⟩ (.int .i64 t163)).setCell ⟨go10,(x4_1:Int).toNat*3+2,none⟩ (.int .i64 t164))) ?hg ?ho ?hn ?hr ?_;(case ho=>rfl);(case hg=>rfl);(case hn=>rfl);(case hr=>first|(go_simp;done)|(go_simp;rfl));intro w13 hw;have hg:w11.grownBy w13 (some go10):=(by rw [hw];exact HP12.2);have hp_:Kd.R k81 81 w13 w.heap.size (fun _=>True) (.slice (some ⟨go10,0,none⟩) x3_1.length co10) y165:=(by rw [hw,Ny165.out];exact HP12.1);clear HP12;have n0_:=Aside0.mk (hp_);have n1_:=Aside0.mk ((by rw [hw];exact below_set (below_set (below_set (HB.out) GB10.out) GB10.out) GB10.out:Below w.heap.size w w13));clear HO_3;clear HB;have HO_3:=n0_;have HB:=n1_;clear n0_ n1_;clear hg hw hp_))
        go_roundg k1
        case measure=>have:=HK1.out;omega
        case rel=>exact ⟨(y165),(wrap64 (x4_1+1)),(by first|rfl|(simp;done)|(simp [*];done)),H',⟨by have:=HK1.out;omega⟩,⟨by (with_reducible repeat (first|apply Kd.R_alloc|apply Kd.R_drewN|apply Kd.R_drew));exact HO_3.out⟩,⟨by repeat (first|(with_reducible first|exact HB.out|apply below_alloc|apply pw_below_drewN|apply below_drew1)|exact HB.out)⟩⟩
       ·rw [if_neg c9] at H
        exact absurd H (by simp)
      ·rw [if_neg c7] at H
       exact absurd H (by simp)
     ·rw [if_neg c6] at H
      have c6b0:decide (x4_1<(l0.length:Int))=false:=decide_eq_false c6
      clear c6
      obtain rfl:=Option.some.inj H
      go_wp2
      go_ret
      exact ⟨_,by first|rfl|(simp [errW_none,errW_some]<;>rfl)|(simp [*,errW_none,errW_some]<;>rfl),by (with_reducible repeat (first|apply Kd.R_alloc|apply Kd.R_drewN|apply Kd.R_drew));exact HO_3.out,by repeat (first|(with_reducible first|exact HB.out|apply below_alloc|apply pw_below_drewN|apply below_drew1)|exact HB.out)⟩
  ·rw [if_neg c3] at H
   exact absurd H (by simp)
 ·rw [if_neg c2] at H
  exact absurd H (by simp)
/-! ### laws_toLig: function 56 -/
def laws_toLig.f (a0_0:Int) (a0_1:Int) (a0_2:Int):Option (Int×Int×Int):=some (a0_0,a0_1,a0_2)
set_option maxHeartbeats 8000000 in
set_option maxRecDepth 100000 in
theorem laws_toLig.calls (a0_0:Int) (a0_1:Int) (a0_2:Int) (r1:Int) (r2:Int) (r3:Int) (w:World) (h:laws_toLig.f a0_0 a0_1 a0_2=some (r1,r2,r3)) :
  Calls Try.prog 56 #[.agg #[.int .i64 a0_0,.int .i64 a0_1,.int .i64 a0_2]] w fun e w'=>e=.returned (.agg #[.int .i64 r1,.int .i64 r2,.int .i64 r3])∧Below w.heap.size w w':=by
 have hu90:=Try.underlying90
 have hu84:=Try.underlying84
 have HB:=Aside0.mk (Below.refl w.heap.size w)
 have H:(some (a0_0,a0_1,a0_2))=some (r1,r2,r3):=h
 clear h
 simp only [Option.some.injEq,Prod.mk.injEq] at H
 obtain ⟨rfl,rfl,rfl⟩:=H
 go_enter Try.func56,Try.ntmps56
 go_wp2_with (first|((with_reducible refine gate_dst (N:=1) rfl ?_);refine box_event ?hg (N:=1) ?hd (cs:=#[.int .i64 a0_0,.int .i64 a0_1,.int .i64 a0_2]) (t:=90) ?hr ?_;(case hd=>rfl);(case hg=>rfl);(case hr=>first|(go_simp;done)|(go_simp;rfl));intro gb166 hg w2 hbox hb;have n0_:=Aside0.mk (below_step (by repeat (first|(with_reducible first|exact HB.out|apply below_alloc|apply pw_below_drewN|apply below_drew1)|exact HB.out)) hb);have n1_:=Aside0.mk (hbox);have n2_:=Aside0.mk ((by rw [hg];exact (below_size (by repeat (first|(with_reducible first|exact HB.out|apply below_alloc|apply pw_below_drewN|apply below_drew1)|exact HB.out))):w.heap.size≤gb166));have n3_:=Aside0.mk ((by rw [hg];exact (below_size (by repeat (first|(with_reducible first|exact HB.out|apply below_alloc|apply pw_below_drewN|apply below_drew1)|exact HB.out))):w.heap.size≤gb166));clear HB;have HB:=n0_;have BK166:=n1_;have GW166:=n2_;have GE166:=n3_;clear n0_ n1_ n2_ n3_;clear hb hbox hg)|((with_reducible refine gate_dst (N:=2) rfl ?_);refine box_event ?hg (N:=2) ?hd (cs:=#[.int .i64 0,.int .i64 0,.int .i64 0]) (t:=84) ?hr ?_;(case hd=>rfl);(case hg=>rfl);(case hr=>first|(go_simp;done)|(go_simp;rfl));intro gb167 hg w3 hbox hb;have n0_:=Aside0.mk (blk_below (g:=gb166) (o:=.cells #[.int .i64 a0_0,.int .i64 a0_1,.int .i64 a0_2] 90 (0,0)) (by (with_reducible repeat (first|refine blk_drewN ?_ _|refine blk_drew ?_|refine blk_alloc ?_ _));exact BK166.out) hb);have n1_:=Aside0.mk (below_step (by repeat (first|(with_reducible first|exact HB.out|apply below_alloc|apply pw_below_drewN|apply below_drew1|refine below_set ?_ GE166.out)|exact HB.out)) hb);have n2_:=Aside0.mk (hbox);have n3_:=Aside0.mk ((by rw [hg];exact (below_size (by repeat (first|(with_reducible first|exact HB.out|apply below_alloc|apply pw_below_drewN|apply below_drew1|refine below_set ?_ GE166.out)|exact HB.out))):w.heap.size≤gb167));have n4_:=Aside0.mk ((by rw [hg];exact (below_size (by repeat (first|(with_reducible first|exact HB.out|apply below_alloc|apply pw_below_drewN|apply below_drew1|refine below_set ?_ GE166.out)|exact HB.out))):w.heap.size≤gb167));have n5_:=Aside0.mk ((by rw [hg];exact Nat.ne_of_lt (blk_lt (g:=gb166) (o:=.cells #[.int .i64 a0_0,.int .i64 a0_1,.int .i64 a0_2] 90 (0,0)) (by (with_reducible repeat (first|refine blk_drewN ?_ _|refine blk_drew ?_|refine blk_alloc ?_ _));exact BK166.out)):gb166≠gb167));have n6_:=Aside0.mk ((by rw [hg];exact Nat.ne_of_gt (blk_lt (g:=gb166) (o:=.cells #[.int .i64 a0_0,.int .i64 a0_1,.int .i64 a0_2] 90 (0,0)) (by (with_reducible repeat (first|refine blk_drewN ?_ _|refine blk_drew ?_|refine blk_alloc ?_ _));exact BK166.out)):gb167≠gb166));clear BK166;clear HB;have BK166:=n0_;have HB:=n1_;have BK167:=n2_;have GW167:=n3_;have GE167:=n4_;have NB166_167:=n5_;have NB167_166:=n6_;clear n0_ n1_ n2_ n3_ n4_ n5_ n6_;clear hb hbox hg)|((with_reducible refine gate_dst (N:=3) rfl ?_);refine box_event ?hg (N:=3) ?hd (cs:=#[.int .i64 0,.int .i64 0,.int .i64 0]) (t:=84) ?hr ?_;(case hd=>rfl);(case hg=>rfl);(case hr=>first|(go_simp;done)|(go_simp;rfl));intro gb168 hg w4 hbox hb;have n0_:=Aside0.mk (blk_below (g:=gb166) (o:=.cells #[.int .i64 a0_0,.int .i64 a0_1,.int .i64 a0_2] 90 (0,0)) (by (with_reducible repeat (first|refine blk_drewN ?_ _|refine blk_drew ?_|refine blk_alloc ?_ _));exact BK166.out) hb);have n1_:=Aside0.mk (blk_below (g:=gb167) (o:=.cells #[.int .i64 0,.int .i64 0,.int .i64 0] 84 (0,0)) (by (with_reducible repeat (first|refine blk_drewN ?_ _|refine blk_drew ?_|refine blk_alloc ?_ _));exact BK167.out) hb);have n2_:=Aside0.mk (below_step (by repeat (first|(with_reducible first|exact HB.out|apply below_alloc|apply pw_below_drewN|apply below_drew1|refine below_set ?_ GE166.out|refine below_set ?_ GE167.out)|exact HB.out)) hb);have n3_:=Aside0.mk (hbox);have n4_:=Aside0.mk ((by rw [hg];exact (below_size (by repeat (first|(with_reducible first|exact HB.out|apply below_alloc|apply pw_below_drewN|apply below_drew1|refine below_set ?_ GE166.out|refine below_set ?_ GE167.out)|exact HB.out))):w.heap.size≤gb168));have n5_:=Aside0.mk ((by rw [hg];exact (below_size (by repeat (first|(with_reducible first|exact HB.out|apply below_alloc|apply pw_below_drewN|apply below_drew1|refine below_set ?_ GE166.out|refine below_set ?_ GE167.out)|exact HB.out))):w.heap.size≤gb168));have n6_:=Aside0.mk ((by rw [hg];exact Nat.ne_of_lt (blk_lt (g:=gb166) (o:=.cells #[.int .i64 a0_0,.int .i64 a0_1,.int .i64 a0_2] 90 (0,0)) (by (with_reducible repeat (first|refine blk_drewN ?_ _|refine blk_drew ?_|refine blk_alloc ?_ _));exact BK166.out)):gb166≠gb168));have n7_:=Aside0.mk ((by rw [hg];exact Nat.ne_of_gt (blk_lt (g:=gb166) (o:=.cells #[.int .i64 a0_0,.int .i64 a0_1,.int .i64 a0_2] 90 (0,0)) (by (with_reducible repeat (first|refine blk_drewN ?_ _|refine blk_drew ?_|refine blk_alloc ?_ _));exact BK166.out)):gb168≠gb166));have n8_:=Aside0.mk ((by rw [hg];exact Nat.ne_of_lt (blk_lt (g:=gb167) (o:=.cells #[.int .i64 0,.int .i64 0,.int .i64 0] 84 (0,0)) (by (with_reducible repeat (first|refine blk_drewN ?_ _|refine blk_drew ?_|refine blk_alloc ?_ _));exact BK167.out)):gb167≠gb168));have n9_:=Aside0.mk ((by rw [hg];exact Nat.ne_of_gt (blk_lt (g:=gb167) (o:=.cells #[.int .i64 0,.int .i64 0,.int .i64 0] 84 (0,0)) (by (with_reducible repeat (first|refine blk_drewN ?_ _|refine blk_drew ?_|refine blk_alloc ?_ _));exact BK167.out)):gb168≠gb167));clear BK166;clear BK167;clear HB;have BK166:=n0_;have BK167:=n1_;have HB:=n2_;have BK168:=n3_;have GW168:=n4_;have GE168:=n5_;have NB166_168:=n6_;have NB168_166:=n7_;have NB167_168:=n8_;have NB168_167:=n9_;clear n0_ n1_ n2_ n3_ n4_ n5_ n6_ n7_ n8_ n9_;clear hb hbox hg;have hnb5:=NB166_167.out;have hnc5:=NB167_166.out;have hnb6:=NB166_168.out;have hnc6:=NB168_166.out;have hcz7_0:w4.cell? ⟨gb166,0,none⟩=some (.int .i64 a0_0):=(blk_cell BK166.out 0).trans rfl;have hcz7_1:w4.cell? ⟨gb166,1,none⟩=some (.int .i64 a0_1):=(blk_cell BK166.out 1).trans rfl;have hcz7_2:w4.cell? ⟨gb166,2,none⟩=some (.int .i64 a0_2):=(blk_cell BK166.out 2).trans rfl;have hfz7_0:=blk_frozen BK166.out 0;have hfz7_1:=blk_frozen BK166.out 1;have hfz7_2:=blk_frozen BK166.out 2;have hnb8:=NB168_167.out;have hnc8:=NB167_168.out;have hcz9_0:w4.cell? ⟨gb168,0,none⟩=some (.int .i64 0):=(blk_cell BK168.out 0).trans rfl;have hcz9_1:w4.cell? ⟨gb168,1,none⟩=some (.int .i64 0):=(blk_cell BK168.out 1).trans rfl;have hcz9_2:w4.cell? ⟨gb168,2,none⟩=some (.int .i64 0):=(blk_cell BK168.out 2).trans rfl;have hfz9_0:=blk_frozen BK168.out 0;have hfz9_1:=blk_frozen BK168.out 1;have hfz9_2:=blk_frozen BK168.out 2;have hcz10_0:w4.cell? ⟨gb167,0,none⟩=some (.int .i64 0):=(blk_cell BK167.out 0).trans rfl;have hcz10_1:w4.cell? ⟨gb167,1,none⟩=some (.int .i64 0):=(blk_cell BK167.out 1).trans rfl;have hcz10_2:w4.cell? ⟨gb167,2,none⟩=some (.int .i64 0):=(blk_cell BK167.out 2).trans rfl;have hfz10_0:=blk_frozen BK167.out 0;have hfz10_1:=blk_frozen BK167.out 1;have hfz10_2:=blk_frozen BK167.out 2))
 refine bodyPost_ret (results_cell_row rfl _ _ gb167 84 #[.int .i64 a0_0,.int .i64 a0_1,.int .i64 a0_2] (0,0) _ rfl (by (with_reducible repeat (first|refine blk_drewN ?_ _|refine blk_drew ?_|refine blk_alloc ?_ _));refine blk_put (cs:=#[.int .i64 a0_0,.int .i64 a0_1,.int .i64 0]) ?_ 2 _ rfl;(with_reducible repeat (first|refine blk_drewN ?_ _|refine blk_drew ?_|refine blk_alloc ?_ _));refine blk_put (cs:=#[.int .i64 a0_0,.int .i64 0,.int .i64 0]) ?_ 1 _ rfl;(with_reducible repeat (first|refine blk_drewN ?_ _|refine blk_drew ?_|refine blk_alloc ?_ _));refine blk_put (cs:=#[.int .i64 0,.int .i64 0,.int .i64 0]) ?_ 0 _ rfl;(with_reducible repeat (first|refine blk_drewN ?_ _|refine blk_drew ?_|refine blk_alloc ?_ _));refine blk_far ?_ NB167_168.out _;(with_reducible repeat (first|refine blk_drewN ?_ _|refine blk_drew ?_|refine blk_alloc ?_ _));refine blk_far ?_ NB167_168.out _;(with_reducible repeat (first|refine blk_drewN ?_ _|refine blk_drew ?_|refine blk_alloc ?_ _));refine blk_far ?_ NB167_168.out _;(with_reducible repeat (first|refine blk_drewN ?_ _|refine blk_drew ?_|refine blk_alloc ?_ _));exact BK167.out) Try.underlying84 rfl (by kernel_rfl)) rfl ?_
 exact ⟨by first|rfl|(simp [errW_none,errW_some]<;>rfl)|(simp [*,errW_none,errW_some]<;>rfl),by repeat (first|(with_reducible first|exact HB.out|apply below_alloc|apply pw_below_drewN|apply below_drew1|refine below_set ?_ GE166.out|refine below_set ?_ GE167.out|refine below_set ?_ GE168.out)|exact HB.out)⟩
/-! ### laws_toLigS: function 30 -/
def laws_toLigS.l0:Nat→List (S90)→List (S84)→Int→Option ((List (S84)))
 |0,_,_,_=>none
 |k+1,x0,x3,x4=>if x4<(x0.length:Int) then (if 0≤x4 then ((laws_toLig.f ((rd_T90 x0 x4).f0) ((rd_T90 x0 x4).f1) ((rd_T90 x0 x4).f2)).bind fun bt173=>(if x4<(x3.length:Int) then (laws_toLigS.l0 k x0 (x3.set (x4:Int).toNat (⟨bt173.1,bt173.2.1,bt173.2.2⟩:S84)) (wrap64 (x4+1))) else (none))) else (none)) else (some x3)
def laws_toLigS.f (k:Nat) (l0:List (S90)):Option ((List (S84))):=if 0≤(l0.length:Int) then (if ((l0.length:Int):Int).toNat≤11728124029610 then (laws_toLigS.l0 k l0 (List.replicate ((l0.length:Int):Int).toNat z84) 0) else (none)) else (none)
theorem laws_toLigS.mono_l:∀ k,(∀ y0 y1 y2,LeO (laws_toLigS.l0 k y0 y1 y2) (laws_toLigS.l0 (k+1) y0 y1 y2))
 |0=>fun _ _ _ r h=>by simp [laws_toLigS.l0] at h
 |k+1=>by
  have ih0:=laws_toLigS.mono_l k
  ·intro y0 y1 y2
   unfold laws_toLigS.l0
   repeat' first
   |(with_reducible exact ih0 _ _ _)
   |(with_reducible exact LeO.refl _)
   |(with_reducible exact LeO.none _)
   |(with_reducible refine LeO.ite ?_ ?_)
   |(with_reducible refine LeO.bind ?_ (fun _=>?_))
   |exact ih0 _ _ _
   |exact LeO.none _
   |refine LeO.ite ?_ ?_
   |refine LeO.bind ?_ (fun _=>?_)
theorem laws_toLigS.mono:∀ a0 k,LeO (laws_toLigS.f k a0) (laws_toLigS.f (k+1) a0):=by
 intro a0 k
 have ih0:=laws_toLigS.mono_l k
 unfold laws_toLigS.f
 repeat' first
   |(with_reducible exact ih0 _ _ _)
   |(with_reducible exact LeO.refl _)
   |(with_reducible exact LeO.none _)
   |(with_reducible refine LeO.ite ?_ ?_)
   |(with_reducible refine LeO.bind ?_ (fun _=>?_))
   |exact ih0 _ _ _
   |exact LeO.none _
   |refine LeO.ite ?_ ?_
   |refine LeO.bind ?_ (fun _=>?_)
set_option maxHeartbeats 8000000 in
set_option maxRecDepth 100000 in
theorem laws_toLigS.calls (k:Nat) (A0:Option Addr) (c0:Nat) (l0:List (S90)) (r:List (S84)) (w:World) (hr0:Kd.C k90 w A0 l0.length l0) (hc0:l0.length≤c0) (h:laws_toLigS.f k l0=some r) :
  Calls Try.prog 30 #[.slice A0 l0.length c0] w fun e w'=>∃ v0_:Value,e=.returned (v0_)∧Kd.R k84 84 w' w.heap.size (fun _=>True) v0_ r∧Below w.heap.size w w':=by
 have hu90:=Try.underlying90
 have hu84:=Try.underlying84
 have HR0:=Aside0.mk hr0
 have HC0:=Aside0.mk hc0
 clear hr0 hc0
 have HB:=Aside0.mk (Below.refl w.heap.size w)
 have H:(if 0≤(l0.length:Int) then (if ((l0.length:Int):Int).toNat≤11728124029610 then (laws_toLigS.l0 k l0 (List.replicate ((l0.length:Int):Int).toNat z84) 0) else (none)) else (none))=some r:=h
 clear h
 by_cases c2:0≤(l0.length:Int)
 ·rw [if_pos c2] at H
  have c2b0:=eq_true c2
  have c2b1:decide (0≤(l0.length:Int))=true:=decide_eq_true c2
  clear c2
  by_cases c3:((l0.length:Int):Int).toNat≤11728124029610
  ·rw [if_pos c3] at H
   have c3b0:=eq_true c3
   have c3b1:decide (((l0.length:Int):Int).toNat≤11728124029610)=true:=decide_eq_true c3
   clear c3
   obtain ⟨y169,hy169⟩:∃ y_:List (S84),y_=(List.replicate ((l0.length:Int):Int).toNat z84):=⟨_,rfl⟩
   replace H:(laws_toLigS.l0 k l0 y169 0)=some r:=by first|(rw [hy169];with_reducible exact H)|(have H2_:=(Option.bind_some _ _).symm.trans H;rw [hy169];with_reducible exact H2_)|(have H2_:=(Option.bind_some _ _).symm.trans H;with_reducible exact H2_)|with_reducible exact H|(rw [hy169];exact H)|exact H
   have Ny169:=Aside0.mk hy169
   clear hy169
   have H':=Aside0.mk H
   clear H
   go_enter Try.func30,Try.ntmps30
   go_wp2_with (first|((with_reducible refine gate_dst (N:=7) rfl ?_);refine Kd.R_make k84 _ 84 rfl (N:=7) rfl 32 _ _ rfl (l0.length:Int) rfl rfl Try.underlying32 (.agg #[(.int .i64 0),(.int .i64 0),(.int .i64 0)]) 24 info84 rfl (by decide) (by omega) z84 (ok:=fun _=>True) (okp:=fun _=>True) (k84_mkM _ _ _ z84) (fun _ hk=>hk) trivial (of_decide_eq_true (by first|(with_reducible assumption)|assumption)) (Nat.le_trans (Nat.mul_le_mul_right _ (of_decide_eq_true (by first|(with_reducible assumption)|assumption):(l0.length:Int).toNat≤11728124029610)) (by omega)) (Below.refl _ _) (Nat.le_refl _) ?_;intro v170 w4 ho5 hb hg_ hnew_;clear hg_ hnew_;(first|rw [← Ny169.out] at ho5|(simp only [Int.reduceToNat] at ho5;rw [← Ny169.out] at ho5));have n0_:=Aside0.mk (Kd.R_lower ho5 (below_size (by repeat (first|(with_reducible first|exact HB.out|apply below_alloc|apply pw_below_drewN|apply below_drew1)|exact HB.out))));have n1_:=Aside0.mk (below_step (by repeat (first|(with_reducible first|exact HB.out|apply below_alloc|apply pw_below_drewN|apply below_drew1)|exact HB.out)) hb);clear HB;have HO171:=n0_;have HB:=n1_;clear n0_ n1_;clear hb ho5))
   go_loopg [4] k (fun kq v4 w'=>∃ (x3_1:List (S84)) (x4_1:Int),v4=.int .i64 x4_1∧Aside0 (laws_toLigS.l0 kq l0 x3_1 x4_1=some r)∧Aside0 (kq≤k)∧Aside0 (Kd.R k84 84 w' w.heap.size (fun _=>True) v170 x3_1)∧Aside0 (Below w.heap.size w w'))
   case atStart=>exact ⟨(y169),(0),(by first|rfl|(simp;done)|(simp [*];done)),H',⟨Nat.le_refl _⟩,⟨by (with_reducible repeat (first|apply Kd.R_alloc|apply Kd.R_drewN|apply Kd.R_drew));exact HO171.out⟩,⟨by repeat (first|(with_reducible first|exact HB.out|apply below_alloc|apply pw_below_drewN|apply below_drew1)|exact HB.out)⟩⟩
   case round=>
    clear H'
    try clear c2
    try clear c2b0
    try clear c2b1
    try clear p2
    try clear c3
    try clear c3b0
    try clear c3b1
    obtain ⟨x3_1,x4_1,rfl,HA,HK1,HO_3,HB⟩:=hrel
    cases gk with
    |zero=>exact absurd HA.out (by simp [laws_toLigS.l0])
    |succ k1=>
     have H:=HA.out
     clear HA
     simp only [laws_toLigS.l0] at H
     by_cases c6:x4_1<(l0.length:Int)
     ·rw [if_pos c6] at H
      have c6b0:decide (x4_1<(l0.length:Int))=true:=decide_eq_true c6
      clear c6
      by_cases c7:0≤x4_1
      ·rw [if_pos c7] at H
       have c7b0:decide (0≤x4_1)=true:=decide_eq_true c7
       clear c7
       replace H:=Option.bind_eq_some_iff.mp H
       obtain ⟨⟨t173,t174,t175⟩,A80,H⟩:=H
       replace H:(if x4_1<(x3_1.length:Int) then (laws_toLigS.l0 k1 l0 (x3_1.set (x4_1:Int).toNat (⟨t173,t174,t175⟩:S84)) (wrap64 (x4_1+1))) else (none))=some r:=H
       have A8:=Aside0.mk A80
       clear A80
       by_cases c9:x4_1<(x3_1.length:Int)
       ·rw [if_pos c9] at H
        have c9b0:decide (x4_1<(x3_1.length:Int))=true:=decide_eq_true c9
        clear c9
        obtain ⟨y176,hy176⟩:∃ y_:List (S84),y_=(x3_1.set (x4_1:Int).toNat (⟨t173,t174,t175⟩:S84)):=⟨_,rfl⟩
        replace H:(laws_toLigS.l0 k1 l0 y176 (wrap64 (x4_1+1)))=some r:=by first|(rw [hy176];with_reducible exact H)|(have H2_:=(Option.bind_some _ _).symm.trans H;rw [hy176];with_reducible exact H2_)|(have H2_:=(Option.bind_some _ _).symm.trans H;with_reducible exact H2_)|with_reducible exact H|(rw [hy176];exact H)|exact H
        have Ny176:=Aside0.mk hy176
        clear hy176
        have H':=Aside0.mk H
        clear H
        have p172:0≤(x4_1:Int):=of_decide_eq_true (by first|(with_reducible assumption)|assumption)
        have q172:x4_1<(l0.length:Int):=of_decide_eq_true (by first|(with_reducible assumption)|assumption)
        obtain ⟨ad172,e172,hx172_0,hx172_1,hx172_2⟩:=at_T90 HR0.out x4_1 p172 q172
        cases e172
        replace hx172_0:=(HB.out.cell (World.block_lt_of_cell? w _ hx172_0)).trans hx172_0
        replace hx172_1:=(HB.out.cell (World.block_lt_of_cell? w _ hx172_1)).trans hx172_1
        replace hx172_2:=(HB.out.cell (World.block_lt_of_cell? w _ hx172_2)).trans hx172_2
        replace p172:=eq_true p172
        replace q172:=eq_true q172
        go_wp2_with (first|((with_reducible refine gate_callee (f:=56) rfl ?_);refine goesL_ (some 20) rfl rfl Try.func56 (by kernel_rfl) rfl #[.agg #[.int .i64 ((rd_T90 l0 x4_1).f0),.int .i64 ((rd_T90 l0 x4_1).f1),.int .i64 ((rd_T90 l0 x4_1).f2)]] rfl (by (try simp only [List.map_toArray,List.map_cons,List.map_nil]);first|done|rfl|(simp only [List.length_drop,List.length_take];rfl)) ?_;(with_reducible refine (laws_toLig.calls ((rd_T90 l0 x4_1).f0) ((rd_T90 l0 x4_1).f1) ((rd_T90 l0 x4_1).f2) t173 t174 t175 _ A8.out).mono ?_);rintro e w11 ⟨rfl,hb⟩;refine ⟨_,rfl,?_⟩;have n0_:=Aside0.mk (Kd.R_below (by (with_reducible repeat (first|apply Kd.R_alloc|apply Kd.R_drewN|apply Kd.R_drew));exact HO_3.out) hb);have n1_:=Aside0.mk (below_step (by repeat (first|(with_reducible first|exact HB.out|apply below_alloc|apply pw_below_drewN|apply below_drew1)|exact HB.out)) hb);clear HO_3;clear HB;have HO_3:=n0_;have HB:=n1_;clear n0_ n1_;(try clear hb);(try clear hb2);(try clear hk);(try clear hi);have p10:0≤(x4_1:Int):=of_decide_eq_true (by first|(with_reducible assumption)|assumption);have q10:(x4_1:Int)<((x3_1.length:Int):Int):=of_decide_eq_true (by first|(with_reducible assumption)|assumption);obtain ⟨go10,co10,eo10,gb10,gl10,cl10,HG10⟩:=Kd.R_form HO_3.out (by omega);(first|cases eo10|(injection eo10 with ea_ en_ ec_;(first|subst ea_|(injection ea_ with ea_;subst ea_));subst ec_;clear en_));have GB10:=Aside0.mk gb10;have GG10:=Aside0.mk HG10;clear gb10 gl10 HG10;obtain ⟨ce10,hcl10,hM10,hcc10,hfr10⟩:=Kd.R_elem HO_3.out z84 (x4_1:Int) p10 q10;obtain rfl:=k84_openM hM10;have hx10_0:w11.cell? ⟨go10,(x4_1:Int).toNat*3,none⟩=some (.int .i64 ((rd_T84 x3_1 x4_1).f0)):=hcc10 0 _ rfl;have hx10_1:w11.cell? ⟨go10,(x4_1:Int).toNat*3+1,none⟩=some (.int .i64 ((rd_T84 x3_1 x4_1).f1)):=hcc10 1 _ rfl;have hx10_2:w11.cell? ⟨go10,(x4_1:Int).toNat*3+2,none⟩=some (.int .i64 ((rd_T84 x3_1 x4_1).f2)):=hcc10 2 _ rfl;have hf10_0:w11.frozen? ⟨go10,(x4_1:Int).toNat*3,none⟩=false:=hfr10 0;have hf10_1:w11.frozen? ⟨go10,(x4_1:Int).toNat*3+1,none⟩=false:=hfr10 1;have hf10_2:w11.frozen? ⟨go10,(x4_1:Int).toNat*3+2,none⟩=false:=hfr10 2;clear hcl10 hcc10 hfr10 hM10;replace p10:=eq_true p10;replace q10:=eq_true q10;have HX12:=Aside0.mk (show Kd.R k84 84 w11 w.heap.size (fun _=>True) (.slice (some ⟨go10,0,none⟩) x3_1.length co10) x3_1 from (by (with_reducible repeat (first|apply Kd.R_alloc|apply Kd.R_drewN|apply Kd.R_drew));exact HO_3.out));obtain ⟨ce12,hcl12,hM12,hcc12,hfr12⟩:=Kd.R_elem HX12.out z84 (x4_1:Int) (of_decide_eq_true (by first|(with_reducible assumption)|assumption)) (by have h_:(x4_1:Int)<((x3_1.length:Int):Int):=of_decide_eq_true (by first|(with_reducible assumption)|assumption);first|exact h_|(have e_:=(Kd.R_reads' HO_3.out).1;omega)|simpa using h_);obtain rfl:=k84_openM hM12;have HP12:=Kd.R_seg HX12.out (x4_1:Int) (of_decide_eq_true (by first|(with_reducible assumption)|assumption)) (by have h_:(x4_1:Int)<((x3_1.length:Int):Int):=of_decide_eq_true (by first|(with_reducible assumption)|assumption);first|exact h_|(have e_:=(Kd.R_reads' HO_3.out).1;omega)|simpa using h_) (seg:=[.int .i64 t173,.int .i64 t174,.int .i64 t175]) (j:=0) hcl12 hcc12 (show 3≤3 from by decide) (x':=(⟨t173,t174,t175⟩:S84)) (k84_mkM _ _ _ (⟨t173,t174,t175⟩:S84)) (fun _ hk=>hk);have hx12_0:=hcc12 0 _ rfl;(try simp only [show (k84).sz=3 from rfl,Nat.mul_one,Nat.add_zero] at hx12_0);have hf12_0:=hfr12 0;(try simp only [show (k84).sz=3 from rfl,Nat.mul_one,Nat.add_zero] at hf12_0);have hx12_1:=hcc12 1 _ rfl;(try simp only [show (k84).sz=3 from rfl,Nat.mul_one,Nat.add_zero] at hx12_1);have hf12_1:=hfr12 1;(try simp only [show (k84).sz=3 from rfl,Nat.mul_one,Nat.add_zero] at hf12_1);have hx12_2:=hcc12 2 _ rfl;(try simp only [show (k84).sz=3 from rfl,Nat.mul_one,Nat.add_zero] at hx12_2);have hf12_2:=hfr12 2;(try simp only [show (k84).sz=3 from rfl,Nat.mul_one,Nat.add_zero] at hf12_2);clear hcl12 hcc12 hfr12 hM12)|((with_reducible refine gate_store (t:=84) (p:=21) rfl ?_);refine store_event (t:=84) (p:=21) (v:=?vo_w13) (w1:=(((w11.setCell ⟨go10,(x4_1:Int).toNat*3,none⟩ (.int .i64 t173)).setCell ⟨go10,(x4_1:Int).toNat*3+1,none⟩ (.int .i64 t174)).setCell ⟨go10,(x4_1:Int).toNat*3+2,none⟩ (.int .i64 t175))) ?hg ?ho ?hn ?hr ?_;(case ho=>rfl);(case hg=>rfl);(case hn=>rfl);(case hr=>first|(go_simp;done)|(go_simp;rfl));intro w13 hw;have hg:w11.grownBy w13 (some go10):=(by rw [hw];exact HP12.2);have hp_:Kd.R k84 84 w13 w.heap.size (fun _=>True) (.slice (some ⟨go10,0,none⟩) x3_1.length co10) y176:=(by rw [hw,Ny176.out];exact HP12.1);clear HP12;have n0_:=Aside0.mk (hp_);have n1_:=Aside0.mk ((by rw [hw];exact below_set (below_set (below_set (HB.out) GB10.out) GB10.out) GB10.out:Below w.heap.size w w13));clear HO_3;clear HB;have HO_3:=n0_;have HB:=n1_;clear n0_ n1_;clear hg hw hp_))
        go_roundg k1
        case measure=>have:=HK1.out;omega
        case rel=>exact ⟨(y176),(wrap64 (x4_1+1)),(by first|rfl|(simp;done)|(simp [*];done)),H',⟨by have:=HK1.out;omega⟩,⟨by (with_reducible repeat (first|apply Kd.R_alloc|apply Kd.R_drewN|apply Kd.R_drew));exact HO_3.out⟩,⟨by repeat (first|(with_reducible first|exact HB.out|apply below_alloc|apply pw_below_drewN|apply below_drew1)|exact HB.out)⟩⟩
       ·rw [if_neg c9] at H
        exact absurd H (by simp)
      ·rw [if_neg c7] at H
       exact absurd H (by simp)
     ·rw [if_neg c6] at H
      have c6b0:decide (x4_1<(l0.length:Int))=false:=decide_eq_false c6
      clear c6
      obtain rfl:=Option.some.inj H
      go_wp2
      go_ret
      exact ⟨_,by first|rfl|(simp [errW_none,errW_some]<;>rfl)|(simp [*,errW_none,errW_some]<;>rfl),by (with_reducible repeat (first|apply Kd.R_alloc|apply Kd.R_drewN|apply Kd.R_drew));exact HO_3.out,by repeat (first|(with_reducible first|exact HB.out|apply below_alloc|apply pw_below_drewN|apply below_drew1)|exact HB.out)⟩
  ·rw [if_neg c3] at H
   exact absurd H (by simp)
 ·rw [if_neg c2] at H
  exact absurd H (by simp)
/-! ### laws_toFont: function 8 -/
def laws_toFont.f (k:Nat) (a0_0:Int) (a0_1:Int) (a0_2:Int) (a0_3:Int) (l0_4:List (S86)) (l0_5:List (S88)) (l0_6:List (S90)):Option (Int×Int×Int×Int×(List (S79))×(List (S81))×(List (S84))):=(laws_toGlyphS.f k l0_4).bind fun t180=>((laws_toKernS.f k l0_5).bind fun t183=>((laws_toLigS.f k l0_6).bind fun t186=>(some (a0_0,a0_1,a0_2,a0_3,t180,t183,t186))))
theorem laws_toFont.mono:∀ a0 a1 a2 a3 a4 a5 a6 k,LeO (laws_toFont.f k a0 a1 a2 a3 a4 a5 a6) (laws_toFont.f (k+1) a0 a1 a2 a3 a4 a5 a6):=by
 intro a0 a1 a2 a3 a4 a5 a6 k
 unfold laws_toFont.f
 repeat' first
   |(with_reducible exact laws_toGlyphS.mono _ _)
   |(with_reducible exact laws_toKernS.mono _ _)
   |(with_reducible exact laws_toLigS.mono _ _)
   |(with_reducible exact LeO.refl _)
   |(with_reducible exact LeO.none _)
   |(with_reducible refine LeO.ite ?_ ?_)
   |(with_reducible refine LeO.bind ?_ (fun _=>?_))
   |exact laws_toGlyphS.mono _ _
   |exact laws_toKernS.mono _ _
   |exact laws_toLigS.mono _ _
   |exact LeO.none _
   |refine LeO.ite ?_ ?_
   |refine LeO.bind ?_ (fun _=>?_)
set_option maxHeartbeats 8000000 in
set_option maxRecDepth 100000 in
theorem laws_toFont.calls (k:Nat) (a0_0:Int) (a0_1:Int) (a0_2:Int) (a0_3:Int) (A0_4:Option Addr) (c0_4:Nat) (l0_4:List (S86)) (A0_5:Option Addr) (c0_5:Nat) (l0_5:List (S88)) (A0_6:Option Addr) (c0_6:Nat) (l0_6:List (S90)) (r1:Int) (r2:Int) (r3:Int) (r4:Int) (r5:List (S79)) (r6:List (S81)) (r7:List (S84)) (w:World) (hr0_4:Kd.C k86 w A0_4 l0_4.length l0_4) (hc0_4:l0_4.length≤c0_4) (hr0_5:Kd.C k88 w A0_5 l0_5.length l0_5) (hc0_5:l0_5.length≤c0_5) (hr0_6:Kd.C k90 w A0_6 l0_6.length l0_6) (hc0_6:l0_6.length≤c0_6) (h:laws_toFont.f k a0_0 a0_1 a0_2 a0_3 l0_4 l0_5 l0_6=some (r1,r2,r3,r4,r5,r6,r7)) :
  Calls Try.prog 8 #[.agg #[.int .i64 a0_0,.int .i64 a0_1,.int .i64 a0_2,.int .i64 a0_3,.slice A0_4 l0_4.length c0_4,.slice A0_5 l0_5.length c0_5,.slice A0_6 l0_6.length c0_6]] w fun e w'=>∃ v4_ v5_ v6_:Value,e=.returned (.agg #[.int .i64 r1,.int .i64 r2,.int .i64 r3,.int .i64 r4,v4_,v5_,v6_])∧Kd.R k79 79 w' w.heap.size (fun _=>True) v4_ r5∧Kd.R k81 81 w' w.heap.size (fun _=>True) v5_ r6∧Kd.R k84 84 w' w.heap.size (fun _=>True) v6_ r7∧Below w.heap.size w w':=by
 have hu26:=Try.underlying26
 have hu34:=Try.underlying34
 have HR0_4:=Aside0.mk hr0_4
 have HC0_4:=Aside0.mk hc0_4
 clear hr0_4 hc0_4
 have HR0_5:=Aside0.mk hr0_5
 have HC0_5:=Aside0.mk hc0_5
 clear hr0_5 hc0_5
 have HR0_6:=Aside0.mk hr0_6
 have HC0_6:=Aside0.mk hc0_6
 clear hr0_6 hc0_6
 have HB:=Aside0.mk (Below.refl w.heap.size w)
 have H:((laws_toGlyphS.f k l0_4).bind fun t180=>((laws_toKernS.f k l0_5).bind fun t183=>((laws_toLigS.f k l0_6).bind fun t186=>(some (a0_0,a0_1,a0_2,a0_3,t180,t183,t186)))))=some (r1,r2,r3,r4,r5,r6,r7):=h
 clear h
 replace H:=Option.bind_eq_some_iff.mp H
 obtain ⟨t180,A20,H⟩:=H
 replace H:((laws_toKernS.f k l0_5).bind fun t183=>((laws_toLigS.f k l0_6).bind fun t186=>(some (a0_0,a0_1,a0_2,a0_3,t180,t183,t186))))=some (r1,r2,r3,r4,r5,r6,r7):=H
 have A2:=Aside0.mk A20
 clear A20
 replace H:=Option.bind_eq_some_iff.mp H
 obtain ⟨t183,A30,H⟩:=H
 replace H:((laws_toLigS.f k l0_6).bind fun t186=>(some (a0_0,a0_1,a0_2,a0_3,t180,t183,t186)))=some (r1,r2,r3,r4,r5,r6,r7):=H
 have A3:=Aside0.mk A30
 clear A30
 replace H:=Option.bind_eq_some_iff.mp H
 obtain ⟨t186,A40,H⟩:=H
 replace H:(some (a0_0,a0_1,a0_2,a0_3,t180,t183,t186))=some (r1,r2,r3,r4,r5,r6,r7):=H
 have A4:=Aside0.mk A40
 clear A40
 simp only [Option.some.injEq,Prod.mk.injEq] at H
 obtain ⟨rfl,rfl,rfl,rfl,rfl,rfl,rfl⟩:=H
 go_enter Try.func8,Try.ntmps8
 go_wp2_with (first|((with_reducible refine gate_dst (N:=1) rfl ?_);refine box_event ?hg (N:=1) ?hd (cs:=#[.int .i64 a0_0,.int .i64 a0_1,.int .i64 a0_2,.int .i64 a0_3,.slice A0_4 l0_4.length c0_4,.slice A0_5 l0_5.length c0_5,.slice A0_6 l0_6.length c0_6]) (t:=26) ?hr ?_;(case hd=>rfl);(case hg=>rfl);(case hr=>first|(go_simp;done)|(go_simp;rfl));intro gb177 hg w5 hbox hb;have n0_:=Aside0.mk (below_step (by repeat (first|(with_reducible first|exact HB.out|apply below_alloc|apply pw_below_drewN|apply below_drew1)|exact HB.out)) hb);have n1_:=Aside0.mk (hbox);have n2_:=Aside0.mk ((by rw [hg];exact (below_size (by repeat (first|(with_reducible first|exact HB.out|apply below_alloc|apply pw_below_drewN|apply below_drew1)|exact HB.out))):w.heap.size≤gb177));have n3_:=Aside0.mk ((by rw [hg];exact (below_size (by repeat (first|(with_reducible first|exact HB.out|apply below_alloc|apply pw_below_drewN|apply below_drew1)|exact HB.out))):w.heap.size≤gb177));clear HB;have HB:=n0_;have BK177:=n1_;have GW177:=n2_;have GE177:=n3_;clear n0_ n1_ n2_ n3_;clear hb hbox hg)|((with_reducible refine gate_dst (N:=2) rfl ?_);refine box_event ?hg (N:=2) ?hd (cs:=#[.int .i64 0,.int .i64 0,.int .i64 0,.int .i64 0,.slice none 0 0,.slice none 0 0,.slice none 0 0]) (t:=34) ?hr ?_;(case hd=>rfl);(case hg=>rfl);(case hr=>first|(go_simp;done)|(go_simp;rfl));intro gb178 hg w6 hbox hb;have n0_:=Aside0.mk (blk_below (g:=gb177) (o:=.cells #[.int .i64 a0_0,.int .i64 a0_1,.int .i64 a0_2,.int .i64 a0_3,.slice A0_4 l0_4.length c0_4,.slice A0_5 l0_5.length c0_5,.slice A0_6 l0_6.length c0_6] 26 (0,0)) (by (with_reducible repeat (first|refine blk_drewN ?_ _|refine blk_drew ?_|refine blk_alloc ?_ _));exact BK177.out) hb);have n1_:=Aside0.mk (below_step (by repeat (first|(with_reducible first|exact HB.out|apply below_alloc|apply pw_below_drewN|apply below_drew1|refine below_set ?_ GE177.out)|exact HB.out)) hb);have n2_:=Aside0.mk (hbox);have n3_:=Aside0.mk ((by rw [hg];exact (below_size (by repeat (first|(with_reducible first|exact HB.out|apply below_alloc|apply pw_below_drewN|apply below_drew1|refine below_set ?_ GE177.out)|exact HB.out))):w.heap.size≤gb178));have n4_:=Aside0.mk ((by rw [hg];exact (below_size (by repeat (first|(with_reducible first|exact HB.out|apply below_alloc|apply pw_below_drewN|apply below_drew1|refine below_set ?_ GE177.out)|exact HB.out))):w.heap.size≤gb178));have n5_:=Aside0.mk ((by rw [hg];exact Nat.ne_of_lt (blk_lt (g:=gb177) (o:=.cells #[.int .i64 a0_0,.int .i64 a0_1,.int .i64 a0_2,.int .i64 a0_3,.slice A0_4 l0_4.length c0_4,.slice A0_5 l0_5.length c0_5,.slice A0_6 l0_6.length c0_6] 26 (0,0)) (by (with_reducible repeat (first|refine blk_drewN ?_ _|refine blk_drew ?_|refine blk_alloc ?_ _));exact BK177.out)):gb177≠gb178));have n6_:=Aside0.mk ((by rw [hg];exact Nat.ne_of_gt (blk_lt (g:=gb177) (o:=.cells #[.int .i64 a0_0,.int .i64 a0_1,.int .i64 a0_2,.int .i64 a0_3,.slice A0_4 l0_4.length c0_4,.slice A0_5 l0_5.length c0_5,.slice A0_6 l0_6.length c0_6] 26 (0,0)) (by (with_reducible repeat (first|refine blk_drewN ?_ _|refine blk_drew ?_|refine blk_alloc ?_ _));exact BK177.out)):gb178≠gb177));clear BK177;clear HB;have BK177:=n0_;have HB:=n1_;have BK178:=n2_;have GW178:=n3_;have GE178:=n4_;have NB177_178:=n5_;have NB178_177:=n6_;clear n0_ n1_ n2_ n3_ n4_ n5_ n6_;clear hb hbox hg)|((with_reducible refine gate_dst (N:=3) rfl ?_);refine box_event ?hg (N:=3) ?hd (cs:=#[.int .i64 0,.int .i64 0,.int .i64 0,.int .i64 0,.slice none 0 0,.slice none 0 0,.slice none 0 0]) (t:=34) ?hr ?_;(case hd=>rfl);(case hg=>rfl);(case hr=>first|(go_simp;done)|(go_simp;rfl));intro gb179 hg w7 hbox hb;have n0_:=Aside0.mk (blk_below (g:=gb177) (o:=.cells #[.int .i64 a0_0,.int .i64 a0_1,.int .i64 a0_2,.int .i64 a0_3,.slice A0_4 l0_4.length c0_4,.slice A0_5 l0_5.length c0_5,.slice A0_6 l0_6.length c0_6] 26 (0,0)) (by (with_reducible repeat (first|refine blk_drewN ?_ _|refine blk_drew ?_|refine blk_alloc ?_ _));exact BK177.out) hb);have n1_:=Aside0.mk (blk_below (g:=gb178) (o:=.cells #[.int .i64 0,.int .i64 0,.int .i64 0,.int .i64 0,.slice none 0 0,.slice none 0 0,.slice none 0 0] 34 (0,0)) (by (with_reducible repeat (first|refine blk_drewN ?_ _|refine blk_drew ?_|refine blk_alloc ?_ _));exact BK178.out) hb);have n2_:=Aside0.mk (below_step (by repeat (first|(with_reducible first|exact HB.out|apply below_alloc|apply pw_below_drewN|apply below_drew1|refine below_set ?_ GE177.out|refine below_set ?_ GE178.out)|exact HB.out)) hb);have n3_:=Aside0.mk (hbox);have n4_:=Aside0.mk ((by rw [hg];exact (below_size (by repeat (first|(with_reducible first|exact HB.out|apply below_alloc|apply pw_below_drewN|apply below_drew1|refine below_set ?_ GE177.out|refine below_set ?_ GE178.out)|exact HB.out))):w.heap.size≤gb179));have n5_:=Aside0.mk ((by rw [hg];exact (below_size (by repeat (first|(with_reducible first|exact HB.out|apply below_alloc|apply pw_below_drewN|apply below_drew1|refine below_set ?_ GE177.out|refine below_set ?_ GE178.out)|exact HB.out))):w.heap.size≤gb179));have n6_:=Aside0.mk ((by rw [hg];exact Nat.ne_of_lt (blk_lt (g:=gb177) (o:=.cells #[.int .i64 a0_0,.int .i64 a0_1,.int .i64 a0_2,.int .i64 a0_3,.slice A0_4 l0_4.length c0_4,.slice A0_5 l0_5.length c0_5,.slice A0_6 l0_6.length c0_6] 26 (0,0)) (by (with_reducible repeat (first|refine blk_drewN ?_ _|refine blk_drew ?_|refine blk_alloc ?_ _));exact BK177.out)):gb177≠gb179));have n7_:=Aside0.mk ((by rw [hg];exact Nat.ne_of_gt (blk_lt (g:=gb177) (o:=.cells #[.int .i64 a0_0,.int .i64 a0_1,.int .i64 a0_2,.int .i64 a0_3,.slice A0_4 l0_4.length c0_4,.slice A0_5 l0_5.length c0_5,.slice A0_6 l0_6.length c0_6] 26 (0,0)) (by (with_reducible repeat (first|refine blk_drewN ?_ _|refine blk_drew ?_|refine blk_alloc ?_ _));exact BK177.out)):gb179≠gb177));have n8_:=Aside0.mk ((by rw [hg];exact Nat.ne_of_lt (blk_lt (g:=gb178) (o:=.cells #[.int .i64 0,.int .i64 0,.int .i64 0,.int .i64 0,.slice none 0 0,.slice none 0 0,.slice none 0 0] 34 (0,0)) (by (with_reducible repeat (first|refine blk_drewN ?_ _|refine blk_drew ?_|refine blk_alloc ?_ _));exact BK178.out)):gb178≠gb179));have n9_:=Aside0.mk ((by rw [hg];exact Nat.ne_of_gt (blk_lt (g:=gb178) (o:=.cells #[.int .i64 0,.int .i64 0,.int .i64 0,.int .i64 0,.slice none 0 0,.slice none 0 0,.slice none 0 0] 34 (0,0)) (by (with_reducible repeat (first|refine blk_drewN ?_ _|refine blk_drew ?_|refine blk_alloc ?_ _));exact BK178.out)):gb179≠gb178));clear BK177;clear BK178;clear HB;have BK177:=n0_;have BK178:=n1_;have HB:=n2_;have BK179:=n3_;have GW179:=n4_;have GE179:=n5_;have NB177_179:=n6_;have NB179_177:=n7_;have NB178_179:=n8_;have NB179_178:=n9_;clear n0_ n1_ n2_ n3_ n4_ n5_ n6_ n7_ n8_ n9_;clear hb hbox hg;have hnb8:=NB177_178.out;have hnc8:=NB178_177.out;have hnb9:=NB177_179.out;have hnc9:=NB179_177.out;have hcz10_0:w7.cell? ⟨gb177,0,none⟩=some (.int .i64 a0_0):=(blk_cell BK177.out 0).trans rfl;have hcz10_1:w7.cell? ⟨gb177,1,none⟩=some (.int .i64 a0_1):=(blk_cell BK177.out 1).trans rfl;have hcz10_2:w7.cell? ⟨gb177,2,none⟩=some (.int .i64 a0_2):=(blk_cell BK177.out 2).trans rfl;have hcz10_3:w7.cell? ⟨gb177,3,none⟩=some (.int .i64 a0_3):=(blk_cell BK177.out 3).trans rfl;have hcz10_4:w7.cell? ⟨gb177,4,none⟩=some (.slice A0_4 l0_4.length c0_4):=(blk_cell BK177.out 4).trans rfl;have hcz10_5:w7.cell? ⟨gb177,5,none⟩=some (.slice A0_5 l0_5.length c0_5):=(blk_cell BK177.out 5).trans rfl;have hcz10_6:w7.cell? ⟨gb177,6,none⟩=some (.slice A0_6 l0_6.length c0_6):=(blk_cell BK177.out 6).trans rfl;have hfz10_0:=blk_frozen BK177.out 0;have hfz10_1:=blk_frozen BK177.out 1;have hfz10_2:=blk_frozen BK177.out 2;have hfz10_3:=blk_frozen BK177.out 3;have hfz10_4:=blk_frozen BK177.out 4;have hfz10_5:=blk_frozen BK177.out 5;have hfz10_6:=blk_frozen BK177.out 6;have hnb11:=NB179_178.out;have hnc11:=NB178_179.out;have hcz12_0:w7.cell? ⟨gb179,0,none⟩=some (.int .i64 0):=(blk_cell BK179.out 0).trans rfl;have hcz12_1:w7.cell? ⟨gb179,1,none⟩=some (.int .i64 0):=(blk_cell BK179.out 1).trans rfl;have hcz12_2:w7.cell? ⟨gb179,2,none⟩=some (.int .i64 0):=(blk_cell BK179.out 2).trans rfl;have hcz12_3:w7.cell? ⟨gb179,3,none⟩=some (.int .i64 0):=(blk_cell BK179.out 3).trans rfl;have hcz12_4:w7.cell? ⟨gb179,4,none⟩=some (.slice none 0 0):=(blk_cell BK179.out 4).trans rfl;have hcz12_5:w7.cell? ⟨gb179,5,none⟩=some (.slice none 0 0):=(blk_cell BK179.out 5).trans rfl;have hcz12_6:w7.cell? ⟨gb179,6,none⟩=some (.slice none 0 0):=(blk_cell BK179.out 6).trans rfl;have hfz12_0:=blk_frozen BK179.out 0;have hfz12_1:=blk_frozen BK179.out 1;have hfz12_2:=blk_frozen BK179.out 2;have hfz12_3:=blk_frozen BK179.out 3;have hfz12_4:=blk_frozen BK179.out 4;have hfz12_5:=blk_frozen BK179.out 5;have hfz12_6:=blk_frozen BK179.out 6)|((with_reducible refine gate_callee (f:=28) rfl ?_);refine goesL_ (some 18) rfl rfl Try.func28 (by kernel_rfl) rfl #[.slice A0_4 l0_4.length c0_4] rfl (by (try simp only [List.map_toArray,List.map_cons,List.map_nil]);first|done|rfl|(simp only [List.length_drop,List.length_take];rfl)) ?_;(with_reducible refine (laws_toGlyphS.calls k _ _ l0_4 t180 _ ?side1 ?side2 A2.out).mono ?_);(case side1=>exact Kd.C_below HR0_4.out (by repeat (first|(with_reducible first|exact HB.out|apply below_alloc|apply pw_below_drewN|apply below_drew1|refine below_set ?_ GE177.out|refine below_set ?_ GE178.out|refine below_set ?_ GE179.out)|exact HB.out)));(case side2=>exact HC0_4.out);rintro e w13 ⟨v181,rfl,ho0,hb⟩;refine ⟨_,rfl,?_⟩;have n0_:=Aside0.mk (Kd.R_lower ho0 (below_size (by repeat (first|(with_reducible first|exact HB.out|apply below_alloc|apply pw_below_drewN|apply below_drew1|refine below_set ?_ GE177.out|refine below_set ?_ GE178.out|refine below_set ?_ GE179.out)|exact HB.out))));have n1_:=Aside0.mk (blk_below (g:=gb177) (o:=.cells #[.int .i64 a0_0,.int .i64 a0_1,.int .i64 a0_2,.int .i64 a0_3,.slice A0_4 l0_4.length c0_4,.slice A0_5 l0_5.length c0_5,.slice A0_6 l0_6.length c0_6] 26 (0,0)) (by (with_reducible repeat (first|refine blk_drewN ?_ _|refine blk_drew ?_|refine blk_alloc ?_ _));refine blk_far ?_ NB177_179.out _;(with_reducible repeat (first|refine blk_drewN ?_ _|refine blk_drew ?_|refine blk_alloc ?_ _));refine blk_far ?_ NB177_179.out _;(with_reducible repeat (first|refine blk_drewN ?_ _|refine blk_drew ?_|refine blk_alloc ?_ _));refine blk_far ?_ NB177_179.out _;(with_reducible repeat (first|refine blk_drewN ?_ _|refine blk_drew ?_|refine blk_alloc ?_ _));refine blk_far ?_ NB177_179.out _;(with_reducible repeat (first|refine blk_drewN ?_ _|refine blk_drew ?_|refine blk_alloc ?_ _));exact BK177.out) hb);have n2_:=Aside0.mk (blk_below (g:=gb178) (o:=.cells #[.int .i64 0,.int .i64 0,.int .i64 0,.int .i64 0,.slice none 0 0,.slice none 0 0,.slice none 0 0] 34 (0,0)) (by (with_reducible repeat (first|refine blk_drewN ?_ _|refine blk_drew ?_|refine blk_alloc ?_ _));refine blk_far ?_ NB178_179.out _;(with_reducible repeat (first|refine blk_drewN ?_ _|refine blk_drew ?_|refine blk_alloc ?_ _));refine blk_far ?_ NB178_179.out _;(with_reducible repeat (first|refine blk_drewN ?_ _|refine blk_drew ?_|refine blk_alloc ?_ _));refine blk_far ?_ NB178_179.out _;(with_reducible repeat (first|refine blk_drewN ?_ _|refine blk_drew ?_|refine blk_alloc ?_ _));refine blk_far ?_ NB178_179.out _;(with_reducible repeat (first|refine blk_drewN ?_ _|refine blk_drew ?_|refine blk_alloc ?_ _));exact BK178.out) hb);have n3_:=Aside0.mk (blk_below (g:=gb179) (o:=.cells #[.int .i64 a0_0,.int .i64 a0_1,.int .i64 a0_2,.int .i64 a0_3,.slice none 0 0,.slice none 0 0,.slice none 0 0] 34 (0,0)) (by (with_reducible repeat (first|refine blk_drewN ?_ _|refine blk_drew ?_|refine blk_alloc ?_ _));refine blk_put (cs:=#[.int .i64 a0_0,.int .i64 a0_1,.int .i64 a0_2,.int .i64 0,.slice none 0 0,.slice none 0 0,.slice none 0 0]) ?_ 3 _ rfl;(with_reducible repeat (first|refine blk_drewN ?_ _|refine blk_drew ?_|refine blk_alloc ?_ _));refine blk_put (cs:=#[.int .i64 a0_0,.int .i64 a0_1,.int .i64 0,.int .i64 0,.slice none 0 0,.slice none 0 0,.slice none 0 0]) ?_ 2 _ rfl;(with_reducible repeat (first|refine blk_drewN ?_ _|refine blk_drew ?_|refine blk_alloc ?_ _));refine blk_put (cs:=#[.int .i64 a0_0,.int .i64 0,.int .i64 0,.int .i64 0,.slice none 0 0,.slice none 0 0,.slice none 0 0]) ?_ 1 _ rfl;(with_reducible repeat (first|refine blk_drewN ?_ _|refine blk_drew ?_|refine blk_alloc ?_ _));refine blk_put (cs:=#[.int .i64 0,.int .i64 0,.int .i64 0,.int .i64 0,.slice none 0 0,.slice none 0 0,.slice none 0 0]) ?_ 0 _ rfl;(with_reducible repeat (first|refine blk_drewN ?_ _|refine blk_drew ?_|refine blk_alloc ?_ _));exact BK179.out) hb);have n4_:=Aside0.mk (below_step (by repeat (first|(with_reducible first|exact HB.out|apply below_alloc|apply pw_below_drewN|apply below_drew1|refine below_set ?_ GE177.out|refine below_set ?_ GE178.out|refine below_set ?_ GE179.out)|exact HB.out)) hb);clear BK177;clear BK178;clear BK179;clear HB;have HO182:=n0_;have BK177:=n1_;have BK178:=n2_;have BK179:=n3_;have HB:=n4_;clear n0_ n1_ n2_ n3_ n4_;(try clear hb);(try clear hb2);(try clear hk);(try clear hi);(try clear ho0);obtain ⟨Ao14,co14,eo14⟩:=Kd.R_slice HO182.out;subst eo14;have hcz15_0:w13.cell? ⟨gb179,0,none⟩=some (.int .i64 a0_0):=(blk_cell BK179.out 0).trans rfl;have hcz15_1:w13.cell? ⟨gb179,1,none⟩=some (.int .i64 a0_1):=(blk_cell BK179.out 1).trans rfl;have hcz15_2:w13.cell? ⟨gb179,2,none⟩=some (.int .i64 a0_2):=(blk_cell BK179.out 2).trans rfl;have hcz15_3:w13.cell? ⟨gb179,3,none⟩=some (.int .i64 a0_3):=(blk_cell BK179.out 3).trans rfl;have hcz15_4:w13.cell? ⟨gb179,4,none⟩=some (.slice none 0 0):=(blk_cell BK179.out 4).trans rfl;have hcz15_5:w13.cell? ⟨gb179,5,none⟩=some (.slice none 0 0):=(blk_cell BK179.out 5).trans rfl;have hcz15_6:w13.cell? ⟨gb179,6,none⟩=some (.slice none 0 0):=(blk_cell BK179.out 6).trans rfl;have hfz15_0:=blk_frozen BK179.out 0;have hfz15_1:=blk_frozen BK179.out 1;have hfz15_2:=blk_frozen BK179.out 2;have hfz15_3:=blk_frozen BK179.out 3;have hfz15_4:=blk_frozen BK179.out 4;have hfz15_5:=blk_frozen BK179.out 5;have hfz15_6:=blk_frozen BK179.out 6;have hcz16_0:w13.cell? ⟨gb177,0,none⟩=some (.int .i64 a0_0):=(blk_cell BK177.out 0).trans rfl;have hcz16_1:w13.cell? ⟨gb177,1,none⟩=some (.int .i64 a0_1):=(blk_cell BK177.out 1).trans rfl;have hcz16_2:w13.cell? ⟨gb177,2,none⟩=some (.int .i64 a0_2):=(blk_cell BK177.out 2).trans rfl;have hcz16_3:w13.cell? ⟨gb177,3,none⟩=some (.int .i64 a0_3):=(blk_cell BK177.out 3).trans rfl;have hcz16_4:w13.cell? ⟨gb177,4,none⟩=some (.slice A0_4 l0_4.length c0_4):=(blk_cell BK177.out 4).trans rfl;have hcz16_5:w13.cell? ⟨gb177,5,none⟩=some (.slice A0_5 l0_5.length c0_5):=(blk_cell BK177.out 5).trans rfl;have hcz16_6:w13.cell? ⟨gb177,6,none⟩=some (.slice A0_6 l0_6.length c0_6):=(blk_cell BK177.out 6).trans rfl;have hfz16_0:=blk_frozen BK177.out 0;have hfz16_1:=blk_frozen BK177.out 1;have hfz16_2:=blk_frozen BK177.out 2;have hfz16_3:=blk_frozen BK177.out 3;have hfz16_4:=blk_frozen BK177.out 4;have hfz16_5:=blk_frozen BK177.out 5;have hfz16_6:=blk_frozen BK177.out 6)|((with_reducible refine gate_callee (f:=29) rfl ?_);refine goesL_ (some 22) rfl rfl Try.func29 (by kernel_rfl) rfl #[.slice A0_5 l0_5.length c0_5] rfl (by (try simp only [List.map_toArray,List.map_cons,List.map_nil]);first|done|rfl|(simp only [List.length_drop,List.length_take];rfl)) ?_;(with_reducible refine (laws_toKernS.calls k _ _ l0_5 t183 _ ?side1 ?side2 A3.out).mono ?_);(case side1=>exact Kd.C_below HR0_5.out (by repeat (first|(with_reducible first|exact HB.out|apply below_alloc|apply pw_below_drewN|apply below_drew1|refine below_set ?_ GE177.out|refine below_set ?_ GE178.out|refine below_set ?_ GE179.out)|exact HB.out)));(case side2=>exact HC0_5.out);rintro e w17 ⟨v184,rfl,ho0,hb⟩;refine ⟨_,rfl,?_⟩;have n0_:=Aside0.mk (Kd.R_below (by (with_reducible repeat (first|apply Kd.R_alloc|apply Kd.R_drewN|apply Kd.R_drew));exact (Kd.R_mono (Kd.R_far (p:=⟨gb179,4,none⟩) (Kd.R_types HO182.out BK179.out (by decide)) (fun _ hk=>hk.2) (.slice Ao14 t180.length co14)) (fun _ h_=>h_.1))) hb);have n1_:=Aside0.mk (Kd.R_lower ho0 (below_size (by repeat (first|(with_reducible first|exact HB.out|apply below_alloc|apply pw_below_drewN|apply below_drew1|refine below_set ?_ GE177.out|refine below_set ?_ GE178.out|refine below_set ?_ GE179.out)|exact HB.out))));have n2_:=Aside0.mk (blk_below (g:=gb177) (o:=.cells #[.int .i64 a0_0,.int .i64 a0_1,.int .i64 a0_2,.int .i64 a0_3,.slice A0_4 l0_4.length c0_4,.slice A0_5 l0_5.length c0_5,.slice A0_6 l0_6.length c0_6] 26 (0,0)) (by (with_reducible repeat (first|refine blk_drewN ?_ _|refine blk_drew ?_|refine blk_alloc ?_ _));refine blk_far ?_ NB177_179.out _;(with_reducible repeat (first|refine blk_drewN ?_ _|refine blk_drew ?_|refine blk_alloc ?_ _));exact BK177.out) hb);have n3_:=Aside0.mk (blk_below (g:=gb178) (o:=.cells #[.int .i64 0,.int .i64 0,.int .i64 0,.int .i64 0,.slice none 0 0,.slice none 0 0,.slice none 0 0] 34 (0,0)) (by (with_reducible repeat (first|refine blk_drewN ?_ _|refine blk_drew ?_|refine blk_alloc ?_ _));refine blk_far ?_ NB178_179.out _;(with_reducible repeat (first|refine blk_drewN ?_ _|refine blk_drew ?_|refine blk_alloc ?_ _));exact BK178.out) hb);have n4_:=Aside0.mk (blk_below (g:=gb179) (o:=.cells #[.int .i64 a0_0,.int .i64 a0_1,.int .i64 a0_2,.int .i64 a0_3,.slice Ao14 t180.length co14,.slice none 0 0,.slice none 0 0] 34 (0,0)) (by (with_reducible repeat (first|refine blk_drewN ?_ _|refine blk_drew ?_|refine blk_alloc ?_ _));refine blk_put (cs:=#[.int .i64 a0_0,.int .i64 a0_1,.int .i64 a0_2,.int .i64 a0_3,.slice none 0 0,.slice none 0 0,.slice none 0 0]) ?_ 4 _ rfl;(with_reducible repeat (first|refine blk_drewN ?_ _|refine blk_drew ?_|refine blk_alloc ?_ _));exact BK179.out) hb);have n5_:=Aside0.mk (below_step (by repeat (first|(with_reducible first|exact HB.out|apply below_alloc|apply pw_below_drewN|apply below_drew1|refine below_set ?_ GE177.out|refine below_set ?_ GE178.out|refine below_set ?_ GE179.out)|exact HB.out)) hb);clear HO182;clear BK177;clear BK178;clear BK179;clear HB;have HO182:=n0_;have HO185:=n1_;have BK177:=n2_;have BK178:=n3_;have BK179:=n4_;have HB:=n5_;clear n0_ n1_ n2_ n3_ n4_ n5_;(try clear hb);(try clear hb2);(try clear hk);(try clear hi);(try clear ho0);obtain ⟨Ao18,co18,eo18⟩:=Kd.R_slice HO185.out;subst eo18;have hcz19_0:w17.cell? ⟨gb179,0,none⟩=some (.int .i64 a0_0):=(blk_cell BK179.out 0).trans rfl;have hcz19_1:w17.cell? ⟨gb179,1,none⟩=some (.int .i64 a0_1):=(blk_cell BK179.out 1).trans rfl;have hcz19_2:w17.cell? ⟨gb179,2,none⟩=some (.int .i64 a0_2):=(blk_cell BK179.out 2).trans rfl;have hcz19_3:w17.cell? ⟨gb179,3,none⟩=some (.int .i64 a0_3):=(blk_cell BK179.out 3).trans rfl;have hcz19_4:w17.cell? ⟨gb179,4,none⟩=some (.slice Ao14 t180.length co14):=(blk_cell BK179.out 4).trans rfl;have hcz19_5:w17.cell? ⟨gb179,5,none⟩=some (.slice none 0 0):=(blk_cell BK179.out 5).trans rfl;have hcz19_6:w17.cell? ⟨gb179,6,none⟩=some (.slice none 0 0):=(blk_cell BK179.out 6).trans rfl;have hfz19_0:=blk_frozen BK179.out 0;have hfz19_1:=blk_frozen BK179.out 1;have hfz19_2:=blk_frozen BK179.out 2;have hfz19_3:=blk_frozen BK179.out 3;have hfz19_4:=blk_frozen BK179.out 4;have hfz19_5:=blk_frozen BK179.out 5;have hfz19_6:=blk_frozen BK179.out 6;have hcz20_0:w17.cell? ⟨gb177,0,none⟩=some (.int .i64 a0_0):=(blk_cell BK177.out 0).trans rfl;have hcz20_1:w17.cell? ⟨gb177,1,none⟩=some (.int .i64 a0_1):=(blk_cell BK177.out 1).trans rfl;have hcz20_2:w17.cell? ⟨gb177,2,none⟩=some (.int .i64 a0_2):=(blk_cell BK177.out 2).trans rfl;have hcz20_3:w17.cell? ⟨gb177,3,none⟩=some (.int .i64 a0_3):=(blk_cell BK177.out 3).trans rfl;have hcz20_4:w17.cell? ⟨gb177,4,none⟩=some (.slice A0_4 l0_4.length c0_4):=(blk_cell BK177.out 4).trans rfl;have hcz20_5:w17.cell? ⟨gb177,5,none⟩=some (.slice A0_5 l0_5.length c0_5):=(blk_cell BK177.out 5).trans rfl;have hcz20_6:w17.cell? ⟨gb177,6,none⟩=some (.slice A0_6 l0_6.length c0_6):=(blk_cell BK177.out 6).trans rfl;have hfz20_0:=blk_frozen BK177.out 0;have hfz20_1:=blk_frozen BK177.out 1;have hfz20_2:=blk_frozen BK177.out 2;have hfz20_3:=blk_frozen BK177.out 3;have hfz20_4:=blk_frozen BK177.out 4;have hfz20_5:=blk_frozen BK177.out 5;have hfz20_6:=blk_frozen BK177.out 6)|((with_reducible refine gate_callee (f:=30) rfl ?_);refine goesL_ (some 26) rfl rfl Try.func30 (by kernel_rfl) rfl #[.slice A0_6 l0_6.length c0_6] rfl (by (try simp only [List.map_toArray,List.map_cons,List.map_nil]);first|done|rfl|(simp only [List.length_drop,List.length_take];rfl)) ?_;(with_reducible refine (laws_toLigS.calls k _ _ l0_6 t186 _ ?side1 ?side2 A4.out).mono ?_);(case side1=>exact Kd.C_below HR0_6.out (by repeat (first|(with_reducible first|exact HB.out|apply below_alloc|apply pw_below_drewN|apply below_drew1|refine below_set ?_ GE177.out|refine below_set ?_ GE178.out|refine below_set ?_ GE179.out)|exact HB.out)));(case side2=>exact HC0_6.out);rintro e w21 ⟨v187,rfl,ho0,hb⟩;refine ⟨_,rfl,?_⟩;have n0_:=Aside0.mk (Kd.R_below (by (with_reducible repeat (first|apply Kd.R_alloc|apply Kd.R_drewN|apply Kd.R_drew));exact (Kd.R_mono (Kd.R_far (p:=⟨gb179,5,none⟩) (Kd.R_types HO182.out BK179.out (by decide)) (fun _ hk=>hk.2) (.slice Ao18 t183.length co18)) (fun _ h_=>h_.1))) hb);have n1_:=Aside0.mk (Kd.R_below (by (with_reducible repeat (first|apply Kd.R_alloc|apply Kd.R_drewN|apply Kd.R_drew));exact (Kd.R_mono (Kd.R_far (p:=⟨gb179,5,none⟩) (Kd.R_types HO185.out BK179.out (by decide)) (fun _ hk=>hk.2) (.slice Ao18 t183.length co18)) (fun _ h_=>h_.1))) hb);have n2_:=Aside0.mk (Kd.R_lower ho0 (below_size (by repeat (first|(with_reducible first|exact HB.out|apply below_alloc|apply pw_below_drewN|apply below_drew1|refine below_set ?_ GE177.out|refine below_set ?_ GE178.out|refine below_set ?_ GE179.out)|exact HB.out))));have n3_:=Aside0.mk (blk_below (g:=gb177) (o:=.cells #[.int .i64 a0_0,.int .i64 a0_1,.int .i64 a0_2,.int .i64 a0_3,.slice A0_4 l0_4.length c0_4,.slice A0_5 l0_5.length c0_5,.slice A0_6 l0_6.length c0_6] 26 (0,0)) (by (with_reducible repeat (first|refine blk_drewN ?_ _|refine blk_drew ?_|refine blk_alloc ?_ _));refine blk_far ?_ NB177_179.out _;(with_reducible repeat (first|refine blk_drewN ?_ _|refine blk_drew ?_|refine blk_alloc ?_ _));exact BK177.out) hb);have n4_:=Aside0.mk (blk_below (g:=gb178) (o:=.cells #[.int .i64 0,.int .i64 0,.int .i64 0,.int .i64 0,.slice none 0 0,.slice none 0 0,.slice none 0 0] 34 (0,0)) (by (with_reducible repeat (first|refine blk_drewN ?_ _|refine blk_drew ?_|refine blk_alloc ?_ _));refine blk_far ?_ NB178_179.out _;(with_reducible repeat (first|refine blk_drewN ?_ _|refine blk_drew ?_|refine blk_alloc ?_ _));exact BK178.out) hb);have n5_:=Aside0.mk (blk_below (g:=gb179) (o:=.cells #[.int .i64 a0_0,.int .i64 a0_1,.int .i64 a0_2,.int .i64 a0_3,.slice Ao14 t180.length co14,.slice Ao18 t183.length co18,.slice none 0 0] 34 (0,0)) (by (with_reducible repeat (first|refine blk_drewN ?_ _|refine blk_drew ?_|refine blk_alloc ?_ _));refine blk_put (cs:=#[.int .i64 a0_0,.int .i64 a0_1,.int .i64 a0_2,.int .i64 a0_3,.slice Ao14 t180.length co14,.slice none 0 0,.slice none 0 0]) ?_ 5 _ rfl;(with_reducible repeat (first|refine blk_drewN ?_ _|refine blk_drew ?_|refine blk_alloc ?_ _));exact BK179.out) hb);have n6_:=Aside0.mk (below_step (by repeat (first|(with_reducible first|exact HB.out|apply below_alloc|apply pw_below_drewN|apply below_drew1|refine below_set ?_ GE177.out|refine below_set ?_ GE178.out|refine below_set ?_ GE179.out)|exact HB.out)) hb);clear HO182;clear HO185;clear BK177;clear BK178;clear BK179;clear HB;have HO182:=n0_;have HO185:=n1_;have HO188:=n2_;have BK177:=n3_;have BK178:=n4_;have BK179:=n5_;have HB:=n6_;clear n0_ n1_ n2_ n3_ n4_ n5_ n6_;(try clear hb);(try clear hb2);(try clear hk);(try clear hi);(try clear ho0);obtain ⟨Ao22,co22,eo22⟩:=Kd.R_slice HO188.out;subst eo22;have hcz23_0:w21.cell? ⟨gb179,0,none⟩=some (.int .i64 a0_0):=(blk_cell BK179.out 0).trans rfl;have hcz23_1:w21.cell? ⟨gb179,1,none⟩=some (.int .i64 a0_1):=(blk_cell BK179.out 1).trans rfl;have hcz23_2:w21.cell? ⟨gb179,2,none⟩=some (.int .i64 a0_2):=(blk_cell BK179.out 2).trans rfl;have hcz23_3:w21.cell? ⟨gb179,3,none⟩=some (.int .i64 a0_3):=(blk_cell BK179.out 3).trans rfl;have hcz23_4:w21.cell? ⟨gb179,4,none⟩=some (.slice Ao14 t180.length co14):=(blk_cell BK179.out 4).trans rfl;have hcz23_5:w21.cell? ⟨gb179,5,none⟩=some (.slice Ao18 t183.length co18):=(blk_cell BK179.out 5).trans rfl;have hcz23_6:w21.cell? ⟨gb179,6,none⟩=some (.slice none 0 0):=(blk_cell BK179.out 6).trans rfl;have hfz23_0:=blk_frozen BK179.out 0;have hfz23_1:=blk_frozen BK179.out 1;have hfz23_2:=blk_frozen BK179.out 2;have hfz23_3:=blk_frozen BK179.out 3;have hfz23_4:=blk_frozen BK179.out 4;have hfz23_5:=blk_frozen BK179.out 5;have hfz23_6:=blk_frozen BK179.out 6;have hcz24_0:w21.cell? ⟨gb178,0,none⟩=some (.int .i64 0):=(blk_cell BK178.out 0).trans rfl;have hcz24_1:w21.cell? ⟨gb178,1,none⟩=some (.int .i64 0):=(blk_cell BK178.out 1).trans rfl;have hcz24_2:w21.cell? ⟨gb178,2,none⟩=some (.int .i64 0):=(blk_cell BK178.out 2).trans rfl;have hcz24_3:w21.cell? ⟨gb178,3,none⟩=some (.int .i64 0):=(blk_cell BK178.out 3).trans rfl;have hcz24_4:w21.cell? ⟨gb178,4,none⟩=some (.slice none 0 0):=(blk_cell BK178.out 4).trans rfl;have hcz24_5:w21.cell? ⟨gb178,5,none⟩=some (.slice none 0 0):=(blk_cell BK178.out 5).trans rfl;have hcz24_6:w21.cell? ⟨gb178,6,none⟩=some (.slice none 0 0):=(blk_cell BK178.out 6).trans rfl;have hfz24_0:=blk_frozen BK178.out 0;have hfz24_1:=blk_frozen BK178.out 1;have hfz24_2:=blk_frozen BK178.out 2;have hfz24_3:=blk_frozen BK178.out 3;have hfz24_4:=blk_frozen BK178.out 4;have hfz24_5:=blk_frozen BK178.out 5;have hfz24_6:=blk_frozen BK178.out 6))
 refine bodyPost_ret (results_cell_row rfl _ _ gb178 34 #[.int .i64 a0_0,.int .i64 a0_1,.int .i64 a0_2,.int .i64 a0_3,.slice Ao14 t180.length co14,.slice Ao18 t183.length co18,.slice Ao22 t186.length co22] (0,0) _ rfl (by (with_reducible repeat (first|refine blk_drewN ?_ _|refine blk_drew ?_|refine blk_alloc ?_ _));refine blk_put (cs:=#[.int .i64 a0_0,.int .i64 a0_1,.int .i64 a0_2,.int .i64 a0_3,.slice Ao14 t180.length co14,.slice Ao18 t183.length co18,.slice none 0 0]) ?_ 6 _ rfl;(with_reducible repeat (first|refine blk_drewN ?_ _|refine blk_drew ?_|refine blk_alloc ?_ _));refine blk_put (cs:=#[.int .i64 a0_0,.int .i64 a0_1,.int .i64 a0_2,.int .i64 a0_3,.slice Ao14 t180.length co14,.slice none 0 0,.slice none 0 0]) ?_ 5 _ rfl;(with_reducible repeat (first|refine blk_drewN ?_ _|refine blk_drew ?_|refine blk_alloc ?_ _));refine blk_put (cs:=#[.int .i64 a0_0,.int .i64 a0_1,.int .i64 a0_2,.int .i64 a0_3,.slice none 0 0,.slice none 0 0,.slice none 0 0]) ?_ 4 _ rfl;(with_reducible repeat (first|refine blk_drewN ?_ _|refine blk_drew ?_|refine blk_alloc ?_ _));refine blk_put (cs:=#[.int .i64 a0_0,.int .i64 a0_1,.int .i64 a0_2,.int .i64 0,.slice none 0 0,.slice none 0 0,.slice none 0 0]) ?_ 3 _ rfl;(with_reducible repeat (first|refine blk_drewN ?_ _|refine blk_drew ?_|refine blk_alloc ?_ _));refine blk_put (cs:=#[.int .i64 a0_0,.int .i64 a0_1,.int .i64 0,.int .i64 0,.slice none 0 0,.slice none 0 0,.slice none 0 0]) ?_ 2 _ rfl;(with_reducible repeat (first|refine blk_drewN ?_ _|refine blk_drew ?_|refine blk_alloc ?_ _));refine blk_put (cs:=#[.int .i64 a0_0,.int .i64 0,.int .i64 0,.int .i64 0,.slice none 0 0,.slice none 0 0,.slice none 0 0]) ?_ 1 _ rfl;(with_reducible repeat (first|refine blk_drewN ?_ _|refine blk_drew ?_|refine blk_alloc ?_ _));refine blk_put (cs:=#[.int .i64 0,.int .i64 0,.int .i64 0,.int .i64 0,.slice none 0 0,.slice none 0 0,.slice none 0 0]) ?_ 0 _ rfl;(with_reducible repeat (first|refine blk_drewN ?_ _|refine blk_drew ?_|refine blk_alloc ?_ _));refine blk_far ?_ NB178_179.out _;(with_reducible repeat (first|refine blk_drewN ?_ _|refine blk_drew ?_|refine blk_alloc ?_ _));exact BK178.out) Try.underlying34 rfl (by kernel_rfl)) rfl ?_
 exact ⟨_,_,_,by first|rfl|(simp [errW_none,errW_some]<;>rfl)|(simp [*,errW_none,errW_some]<;>rfl),by (with_reducible repeat (first|apply Kd.R_alloc|apply Kd.R_drewN|apply Kd.R_drew));exact Kd.R_mono (Kd.R_far (p:=⟨gb178,6,none⟩) (Kd.R_far (p:=⟨gb178,5,none⟩) (Kd.R_far (p:=⟨gb178,4,none⟩) (Kd.R_far (p:=⟨gb178,3,none⟩) (Kd.R_far (p:=⟨gb178,2,none⟩) (Kd.R_far (p:=⟨gb178,1,none⟩) (Kd.R_far (p:=⟨gb178,0,none⟩) (Kd.R_far (p:=⟨gb179,6,none⟩) (Kd.R_types (Kd.R_types HO182.out BK179.out (by decide)) BK178.out (by decide)) (fun _ hk=>hk.1.2) (.slice Ao22 t186.length co22)) (fun _ hk=>hk.2) (.int .i64 a0_0)) (fun _ hk=>hk.2) (.int .i64 a0_1)) (fun _ hk=>hk.2) (.int .i64 a0_2)) (fun _ hk=>hk.2) (.int .i64 a0_3)) (fun _ hk=>hk.2) (.slice Ao14 t180.length co14)) (fun _ hk=>hk.2) (.slice Ao18 t183.length co18)) (fun _ hk=>hk.2) (.slice Ao22 t186.length co22)) (fun _ hk=>trivial),by (with_reducible repeat (first|apply Kd.R_alloc|apply Kd.R_drewN|apply Kd.R_drew));exact Kd.R_mono (Kd.R_far (p:=⟨gb178,6,none⟩) (Kd.R_far (p:=⟨gb178,5,none⟩) (Kd.R_far (p:=⟨gb178,4,none⟩) (Kd.R_far (p:=⟨gb178,3,none⟩) (Kd.R_far (p:=⟨gb178,2,none⟩) (Kd.R_far (p:=⟨gb178,1,none⟩) (Kd.R_far (p:=⟨gb178,0,none⟩) (Kd.R_far (p:=⟨gb179,6,none⟩) (Kd.R_types (Kd.R_types HO185.out BK179.out (by decide)) BK178.out (by decide)) (fun _ hk=>hk.1.2) (.slice Ao22 t186.length co22)) (fun _ hk=>hk.2) (.int .i64 a0_0)) (fun _ hk=>hk.2) (.int .i64 a0_1)) (fun _ hk=>hk.2) (.int .i64 a0_2)) (fun _ hk=>hk.2) (.int .i64 a0_3)) (fun _ hk=>hk.2) (.slice Ao14 t180.length co14)) (fun _ hk=>hk.2) (.slice Ao18 t183.length co18)) (fun _ hk=>hk.2) (.slice Ao22 t186.length co22)) (fun _ hk=>trivial),by (with_reducible repeat (first|apply Kd.R_alloc|apply Kd.R_drewN|apply Kd.R_drew));exact Kd.R_mono (Kd.R_far (p:=⟨gb178,6,none⟩) (Kd.R_far (p:=⟨gb178,5,none⟩) (Kd.R_far (p:=⟨gb178,4,none⟩) (Kd.R_far (p:=⟨gb178,3,none⟩) (Kd.R_far (p:=⟨gb178,2,none⟩) (Kd.R_far (p:=⟨gb178,1,none⟩) (Kd.R_far (p:=⟨gb178,0,none⟩) (Kd.R_far (p:=⟨gb179,6,none⟩) (Kd.R_types (Kd.R_types HO188.out BK179.out (by decide)) BK178.out (by decide)) (fun _ hk=>hk.1.2) (.slice Ao22 t186.length co22)) (fun _ hk=>hk.2) (.int .i64 a0_0)) (fun _ hk=>hk.2) (.int .i64 a0_1)) (fun _ hk=>hk.2) (.int .i64 a0_2)) (fun _ hk=>hk.2) (.int .i64 a0_3)) (fun _ hk=>hk.2) (.slice Ao14 t180.length co14)) (fun _ hk=>hk.2) (.slice Ao18 t183.length co18)) (fun _ hk=>hk.2) (.slice Ao22 t186.length co22)) (fun _ hk=>trivial),by repeat (first|(with_reducible first|exact HB.out|apply below_alloc|apply pw_below_drewN|apply below_drew1|refine below_set ?_ GE177.out|refine below_set ?_ GE178.out|refine below_set ?_ GE179.out)|exact HB.out)⟩
/-! ### laws_toIntS: function 9 -/
def laws_toIntS.l0:Nat→List Int→List Int→Int→Option (List Int)
 |0,_,_,_=>none
 |k+1,x0,x3,x4=>if x4<(x0.length:Int) then (if 0≤x4 then (if x4<(x3.length:Int) then (laws_toIntS.l0 k x0 (x3.set (x4:Int).toNat (rd x0 x4)) (wrap64 (x4+1))) else (none)) else (none)) else (some x3)
def laws_toIntS.f (k:Nat) (l0:List Int):Option (List Int):=if 0≤(l0.length:Int) then (if ((l0.length:Int):Int).toNat≤35184372088832 then (laws_toIntS.l0 k l0 (List.replicate ((l0.length:Int):Int).toNat 0) 0) else (none)) else (none)
theorem laws_toIntS.mono_l:∀ k,(∀ y0 y1 y2,LeO (laws_toIntS.l0 k y0 y1 y2) (laws_toIntS.l0 (k+1) y0 y1 y2))
 |0=>fun _ _ _ r h=>by simp [laws_toIntS.l0] at h
 |k+1=>by
  have ih0:=laws_toIntS.mono_l k
  ·intro y0 y1 y2
   unfold laws_toIntS.l0
   repeat' first
   |(with_reducible exact ih0 _ _ _)
   |(with_reducible exact LeO.refl _)
   |(with_reducible exact LeO.none _)
   |(with_reducible refine LeO.ite ?_ ?_)
   |(with_reducible refine LeO.bind ?_ (fun _=>?_))
   |exact ih0 _ _ _
   |exact LeO.none _
   |refine LeO.ite ?_ ?_
   |refine LeO.bind ?_ (fun _=>?_)
theorem laws_toIntS.mono:∀ a0 k,LeO (laws_toIntS.f k a0) (laws_toIntS.f (k+1) a0):=by
 intro a0 k
 have ih0:=laws_toIntS.mono_l k
 unfold laws_toIntS.f
 repeat' first
   |(with_reducible exact ih0 _ _ _)
   |(with_reducible exact LeO.refl _)
   |(with_reducible exact LeO.none _)
   |(with_reducible refine LeO.ite ?_ ?_)
   |(with_reducible refine LeO.bind ?_ (fun _=>?_))
   |exact ih0 _ _ _
   |exact LeO.none _
   |refine LeO.ite ?_ ?_
   |refine LeO.bind ?_ (fun _=>?_)
set_option maxHeartbeats 8000000 in
set_option maxRecDepth 100000 in
theorem laws_toIntS.calls (k:Nat) (A0:Option Addr) (c0:Nat) (l0:List Int) (r:List Int) (w:World) (hr0:Kd.C (Kd.int .i64) w A0 l0.length l0) (hc0:l0.length≤c0) (h:laws_toIntS.f k l0=some r) :
  Calls Try.prog 9 #[.slice A0 l0.length c0] w fun e w'=>∃ v0_:Value,e=.returned (v0_)∧Kd.R (Kd.int .i64) 3 w' w.heap.size (fun _=>True) v0_ r∧Below w.heap.size w w':=by
 have HR0:=Aside0.mk hr0
 have HC0:=Aside0.mk hc0
 clear hr0 hc0
 have HB:=Aside0.mk (Below.refl w.heap.size w)
 have H:(if 0≤(l0.length:Int) then (if ((l0.length:Int):Int).toNat≤35184372088832 then (laws_toIntS.l0 k l0 (List.replicate ((l0.length:Int):Int).toNat 0) 0) else (none)) else (none))=some r:=h
 clear h
 by_cases c2:0≤(l0.length:Int)
 ·rw [if_pos c2] at H
  have c2b0:=eq_true c2
  have c2b1:decide (0≤(l0.length:Int))=true:=decide_eq_true c2
  clear c2
  by_cases c3:((l0.length:Int):Int).toNat≤35184372088832
  ·rw [if_pos c3] at H
   have c3b0:=eq_true c3
   have c3b1:decide (((l0.length:Int):Int).toNat≤35184372088832)=true:=decide_eq_true c3
   clear c3
   obtain ⟨y189,hy189⟩:∃ y_:List Int,y_=(List.replicate ((l0.length:Int):Int).toNat 0):=⟨_,rfl⟩
   replace H:(laws_toIntS.l0 k l0 y189 0)=some r:=by first|(rw [hy189];with_reducible exact H)|(have H2_:=(Option.bind_some _ _).symm.trans H;rw [hy189];with_reducible exact H2_)|(have H2_:=(Option.bind_some _ _).symm.trans H;with_reducible exact H2_)|with_reducible exact H|(rw [hy189];exact H)|exact H
   have Ny189:=Aside0.mk hy189
   clear hy189
   have H':=Aside0.mk H
   clear H
   go_enter Try.func9,Try.ntmps9
   go_wp2_with (first|((with_reducible refine gate_dst (N:=7) rfl ?_);refine Kd.R_make (Kd.int .i64) _ 3 rfl (N:=7) rfl 27 _ _ rfl (l0.length:Int) rfl rfl Try.underlying27 (.int .i64 0) 8 info3 rfl (by decide) (by omega) 0 (ok:=fun _=>True) (okp:=fun _=>True) rfl (fun _ hk=>hk) trivial (of_decide_eq_true (by first|(with_reducible assumption)|assumption)) (Nat.le_trans (Nat.mul_le_mul_right _ (of_decide_eq_true (by first|(with_reducible assumption)|assumption):(l0.length:Int).toNat≤35184372088832)) (by omega)) (Below.refl _ _) (Nat.le_refl _) ?_;intro v190 w4 ho5 hb hg_ hnew_;clear hg_ hnew_;(first|rw [← Ny189.out] at ho5|(simp only [Int.reduceToNat] at ho5;rw [← Ny189.out] at ho5));have n0_:=Aside0.mk (Kd.R_lower ho5 (below_size (by repeat (first|(with_reducible first|exact HB.out|apply below_alloc|apply pw_below_drewN|apply below_drew1)|exact HB.out))));have n1_:=Aside0.mk (below_step (by repeat (first|(with_reducible first|exact HB.out|apply below_alloc|apply pw_below_drewN|apply below_drew1)|exact HB.out)) hb);clear HB;have HO191:=n0_;have HB:=n1_;clear n0_ n1_;clear hb ho5))
   go_loopg [4] k (fun kq v4 w'=>∃ (x3_1:List Int) (x4_1:Int),v4=.int .i64 x4_1∧Aside0 (laws_toIntS.l0 kq l0 x3_1 x4_1=some r)∧Aside0 (kq≤k)∧Aside0 (Kd.R (Kd.int .i64) 3 w' w.heap.size (fun _=>True) v190 x3_1)∧Aside0 (Below w.heap.size w w'))
   case atStart=>exact ⟨(y189),(0),(by first|rfl|(simp;done)|(simp [*];done)),H',⟨Nat.le_refl _⟩,⟨by (with_reducible repeat (first|apply Kd.R_alloc|apply Kd.R_drewN|apply Kd.R_drew));exact HO191.out⟩,⟨by repeat (first|(with_reducible first|exact HB.out|apply below_alloc|apply pw_below_drewN|apply below_drew1)|exact HB.out)⟩⟩
   case round=>
    clear H'
    try clear c2
    try clear c2b0
    try clear c2b1
    try clear p2
    try clear c3
    try clear c3b0
    try clear c3b1
    obtain ⟨x3_1,x4_1,rfl,HA,HK1,HO_3,HB⟩:=hrel
    cases gk with
    |zero=>exact absurd HA.out (by simp [laws_toIntS.l0])
    |succ k1=>
     have H:=HA.out
     clear HA
     simp only [laws_toIntS.l0] at H
     by_cases c6:x4_1<(l0.length:Int)
     ·rw [if_pos c6] at H
      have c6b0:decide (x4_1<(l0.length:Int))=true:=decide_eq_true c6
      clear c6
      by_cases c7:0≤x4_1
      ·rw [if_pos c7] at H
       have c7b0:decide (0≤x4_1)=true:=decide_eq_true c7
       clear c7
       by_cases c8:x4_1<(x3_1.length:Int)
       ·rw [if_pos c8] at H
        have c8b0:decide (x4_1<(x3_1.length:Int))=true:=decide_eq_true c8
        clear c8
        obtain ⟨y193,hy193⟩:∃ y_:List Int,y_=(x3_1.set (x4_1:Int).toNat (rd l0 x4_1)):=⟨_,rfl⟩
        replace H:(laws_toIntS.l0 k1 l0 y193 (wrap64 (x4_1+1)))=some r:=by first|(rw [hy193];with_reducible exact H)|(have H2_:=(Option.bind_some _ _).symm.trans H;rw [hy193];with_reducible exact H2_)|(have H2_:=(Option.bind_some _ _).symm.trans H;with_reducible exact H2_)|with_reducible exact H|(rw [hy193];exact H)|exact H
        have Ny193:=Aside0.mk hy193
        clear hy193
        have H':=Aside0.mk H
        clear H
        have p192:0≤(x4_1:Int):=of_decide_eq_true (by first|(with_reducible assumption)|assumption)
        have q192:x4_1<(l0.length:Int):=of_decide_eq_true (by first|(with_reducible assumption)|assumption)
        obtain ⟨ad192,e192,hx192_0⟩:=Kd.at_int HR0.out x4_1 p192 q192
        cases e192
        replace hx192_0:=(HB.out.cell (World.block_lt_of_cell? w _ hx192_0)).trans hx192_0
        replace p192:=eq_true p192
        replace q192:=eq_true q192
        have p9:0≤(x4_1:Int):=of_decide_eq_true (by first|(with_reducible assumption)|assumption)
        have q9:(x4_1:Int)<((x3_1.length:Int):Int):=of_decide_eq_true (by first|(with_reducible assumption)|assumption)
        obtain ⟨go9,co9,eo9,gb9,gl9,cl9,HG9⟩:=Kd.R_form HO_3.out (by omega)
        (first|cases eo9|(injection eo9 with ea_ en_ ec_;(first|subst ea_|(injection ea_ with ea_;subst ea_));subst ec_;clear en_))
        have GB9:=Aside0.mk gb9
        have GG9:=Aside0.mk HG9
        clear gb9 gl9 HG9
        obtain ⟨hx9_0,hf9_0⟩:=Kd.R_celln 0 HO_3.out (x4_1:Int) p9 q9
        replace p9:=eq_true p9
        replace q9:=eq_true q9
        have HP10:=Kd.R_putg HO_3.out (x4_1:Int) (rd l0 x4_1)
        go_wp2_with (first|((with_reducible refine gate_store (t:=3) (p:=20) rfl ?_);refine store_event (t:=3) (p:=20) (v:=?vo_w11) (w1:=(wr.setCell ⟨go9,(x4_1:Int).toNat,none⟩ (.int .i64 (rd l0 x4_1)))) ?hg ?ho ?hn ?hr ?_;(case ho=>rfl);(case hg=>rfl);(case hn=>rfl);(case hr=>first|(go_simp;done)|(go_simp;rfl));intro w11 hw;have hg:wr.grownBy w11 (some go9):=(by rw [hw];exact HP10.2);have hp_:Kd.R (Kd.int .i64) 3 w11 w.heap.size (fun _=>True) (.slice (some ⟨go9,0,none⟩) x3_1.length co9) y193:=(by rw [hw,Ny193.out];exact HP10.1);clear HP10;have n0_:=Aside0.mk (hp_);have n1_:=Aside0.mk ((by rw [hw];exact below_set (HB.out) GB9.out:Below w.heap.size w w11));clear HO_3;clear HB;have HO_3:=n0_;have HB:=n1_;clear n0_ n1_;clear hg hw hp_))
        go_roundg k1
        case measure=>have:=HK1.out;omega
        case rel=>exact ⟨(y193),(wrap64 (x4_1+1)),(by first|rfl|(simp;done)|(simp [*];done)),H',⟨by have:=HK1.out;omega⟩,⟨by (with_reducible repeat (first|apply Kd.R_alloc|apply Kd.R_drewN|apply Kd.R_drew));exact HO_3.out⟩,⟨by repeat (first|(with_reducible first|exact HB.out|apply below_alloc|apply pw_below_drewN|apply below_drew1)|exact HB.out)⟩⟩
       ·rw [if_neg c8] at H
        exact absurd H (by simp)
      ·rw [if_neg c7] at H
       exact absurd H (by simp)
     ·rw [if_neg c6] at H
      have c6b0:decide (x4_1<(l0.length:Int))=false:=decide_eq_false c6
      clear c6
      obtain rfl:=Option.some.inj H
      go_wp2
      go_ret
      exact ⟨_,by first|rfl|(simp [errW_none,errW_some]<;>rfl)|(simp [*,errW_none,errW_some]<;>rfl),by (with_reducible repeat (first|apply Kd.R_alloc|apply Kd.R_drewN|apply Kd.R_drew));exact HO_3.out,by repeat (first|(with_reducible first|exact HB.out|apply below_alloc|apply pw_below_drewN|apply below_drew1)|exact HB.out)⟩
  ·rw [if_neg c3] at H
   exact absurd H (by simp)
 ·rw [if_neg c2] at H
  exact absurd H (by simp)
/-! ### impl_inMetric: function 57 -/
def impl_inMetric.f (a0:Int):Option (Bool):=if a0≥0 then (some (decide (a0≤10000))) else (some false)
set_option maxHeartbeats 8000000 in
set_option maxRecDepth 100000 in
theorem impl_inMetric.calls (a0:Int) (r:Bool) (w:World) (h:impl_inMetric.f a0=some r) :
  Calls Try.prog 57 #[.int .i64 a0] w fun e w'=>e=.returned (.bool r)∧Drawn0 w w':=by
 have H:(if a0≥0 then (some (decide (a0≤10000))) else (some false))=some r:=h
 clear h
 by_cases c2:a0≥0
 ·rw [if_pos c2] at H
  have c2b0:decide (0≤a0)=true:=decide_eq_true c2
  clear c2
  obtain rfl:=Option.some.inj H
  go_enter Try.func57,Try.ntmps57
  go_wp2
  go_ret
  exact ⟨by first|rfl|(simp;done)|(simp [*];done),by repeat (first|exact Drawn0.refl _|apply Drawn0.step)⟩
 ·rw [if_neg c2] at H
  have c2b0:decide (0≤a0)=false:=decide_eq_false c2
  clear c2
  obtain rfl:=Option.some.inj H
  go_enter Try.func57,Try.ntmps57
  go_wp2
  go_ret
  exact ⟨by first|rfl|(simp;done)|(simp [*];done),by repeat (first|exact Drawn0.refl _|apply Drawn0.step)⟩
/-! ### cmp_isNaN_int: function 77 -/
def cmp_isNaN_int.f (a0:Int):Option (Bool):=some (a0 != a0)
set_option maxHeartbeats 8000000 in
set_option maxRecDepth 100000 in
theorem cmp_isNaN_int.calls (a0:Int) (r:Bool) (w:World) (h:cmp_isNaN_int.f a0=some r) :
  Calls Try.prog 77 #[.int .i64 a0] w fun e w'=>e=.returned (.bool r)∧Drawn0 w w':=by
 have H:(some (a0 != a0))=some r:=h
 clear h
 obtain rfl:=Option.some.inj H
 go_enter Try.func77,Try.ntmps77
 go_wp2
 go_ret
 exact ⟨by first|rfl|(simp;done)|(simp [*];done),by repeat (first|exact Drawn0.refl _|apply Drawn0.step)⟩
/-! ### cmp_Compare_int: function 60 -/
def cmp_Compare_int.f (a0:Int) (a1:Int):Option (Int):=(cmp_isNaN_int.f a0).bind fun t194=>((cmp_isNaN_int.f a1).bind fun t195=>(if t194=true then (if t195=true then (some 0) else (some (-1))) else (if t195=true then (some 1) else (if a0<a1 then (some (-1)) else (if a0 > a1 then (some 1) else (some 0))))))
set_option maxHeartbeats 8000000 in
set_option maxRecDepth 100000 in
theorem cmp_Compare_int.calls (a0:Int) (a1:Int) (r:Int) (w:World) (h:cmp_Compare_int.f a0 a1=some r) :
  Calls Try.prog 60 #[.int .i64 a0,.int .i64 a1] w fun e w'=>e=.returned (.int .i64 r)∧Drawn0 w w':=by
 have H:((cmp_isNaN_int.f a0).bind fun t194=>((cmp_isNaN_int.f a1).bind fun t195=>(if t194=true then (if t195=true then (some 0) else (some (-1))) else (if t195=true then (some 1) else (if a0<a1 then (some (-1)) else (if a0 > a1 then (some 1) else (some 0)))))))=some r:=h
 clear h
 replace H:=Option.bind_eq_some_iff.mp H
 obtain ⟨t194,A30,H⟩:=H
 replace H:((cmp_isNaN_int.f a1).bind fun t195=>(if t194=true then (if t195=true then (some 0) else (some (-1))) else (if t195=true then (some 1) else (if a0<a1 then (some (-1)) else (if a0 > a1 then (some 1) else (some 0))))))=some r:=H
 have A3:=Aside0.mk A30
 clear A30
 replace H:=Option.bind_eq_some_iff.mp H
 obtain ⟨t195,A40,H⟩:=H
 replace H:(if t194=true then (if t195=true then (some 0) else (some (-1))) else (if t195=true then (some 1) else (if a0<a1 then (some (-1)) else (if a0 > a1 then (some 1) else (some 0)))))=some r:=H
 have A4:=Aside0.mk A40
 clear A40
 by_cases c5:t194=true
 ·subst c5
  have H1:(if t195=true then (some 0) else (some (-1)))=some r:=by rw [if_pos rfl] at H;exact H
  clear H
  have H:=H1
  clear H1
  by_cases c6:t195=true
  ·subst c6
   have H1:(some 0)=some r:=by rw [if_pos rfl] at H;exact H
   clear H
   have H:=H1
   clear H1
   obtain rfl:=Option.some.inj H
   go_enter Try.func60,Try.ntmps60
   go_wp2_with (first|((with_reducible refine gate_callee (f:=77) rfl ?_);refine goesL_ (some 8) rfl rfl Try.func77 (by kernel_rfl) rfl #[.int .i64 a0] rfl (by (try simp only [List.map_toArray,List.map_cons,List.map_nil]);first|done|rfl|(simp only [List.length_drop,List.length_take];rfl)) ?_;(with_reducible refine (cmp_isNaN_int.calls a0 true _ A3.out).mono ?_);rintro e w' ⟨rfl,⟨nd,rfl⟩⟩;refine ⟨_,rfl,?_⟩)|((with_reducible refine gate_callee (f:=77) rfl ?_);refine goesL_ (some 10) rfl rfl Try.func77 (by kernel_rfl) rfl #[.int .i64 a1] rfl (by (try simp only [List.map_toArray,List.map_cons,List.map_nil]);first|done|rfl|(simp only [List.length_drop,List.length_take];rfl)) ?_;(with_reducible refine (cmp_isNaN_int.calls a1 true _ A4.out).mono ?_);rintro e w' ⟨rfl,⟨nd,rfl⟩⟩;refine ⟨_,rfl,?_⟩))
   go_ret
   exact ⟨by first|rfl|(simp;done)|(simp [*];done),by repeat (first|exact Drawn0.refl _|apply Drawn0.step)⟩
  ·replace c6:=Bool.eq_false_iff.mpr c6
   subst c6
   have H1:(some (-1))=some r:=by rw [if_neg (show ¬ (false=true) by decide)] at H;exact H
   clear H
   have H:=H1
   clear H1
   obtain rfl:=Option.some.inj H
   go_enter Try.func60,Try.ntmps60
   go_wp2_with (first|((with_reducible refine gate_callee (f:=77) rfl ?_);refine goesL_ (some 8) rfl rfl Try.func77 (by kernel_rfl) rfl #[.int .i64 a0] rfl (by (try simp only [List.map_toArray,List.map_cons,List.map_nil]);first|done|rfl|(simp only [List.length_drop,List.length_take];rfl)) ?_;(with_reducible refine (cmp_isNaN_int.calls a0 true _ A3.out).mono ?_);rintro e w' ⟨rfl,⟨nd,rfl⟩⟩;refine ⟨_,rfl,?_⟩)|((with_reducible refine gate_callee (f:=77) rfl ?_);refine goesL_ (some 10) rfl rfl Try.func77 (by kernel_rfl) rfl #[.int .i64 a1] rfl (by (try simp only [List.map_toArray,List.map_cons,List.map_nil]);first|done|rfl|(simp only [List.length_drop,List.length_take];rfl)) ?_;(with_reducible refine (cmp_isNaN_int.calls a1 false _ A4.out).mono ?_);rintro e w' ⟨rfl,⟨nd,rfl⟩⟩;refine ⟨_,rfl,?_⟩))
   go_ret
   exact ⟨by first|rfl|(simp;done)|(simp [*];done),by repeat (first|exact Drawn0.refl _|apply Drawn0.step)⟩
 ·replace c5:=Bool.eq_false_iff.mpr c5
  subst c5
  have H1:(if t195=true then (some 1) else (if a0<a1 then (some (-1)) else (if a0 > a1 then (some 1) else (some 0))))=some r:=by rw [if_neg (show ¬ (false=true) by decide)] at H;exact H
  clear H
  have H:=H1
  clear H1
  by_cases c7:t195=true
  ·subst c7
   have H1:(some 1)=some r:=by rw [if_pos rfl] at H;exact H
   clear H
   have H:=H1
   clear H1
   obtain rfl:=Option.some.inj H
   go_enter Try.func60,Try.ntmps60
   go_wp2_with (first|((with_reducible refine gate_callee (f:=77) rfl ?_);refine goesL_ (some 8) rfl rfl Try.func77 (by kernel_rfl) rfl #[.int .i64 a0] rfl (by (try simp only [List.map_toArray,List.map_cons,List.map_nil]);first|done|rfl|(simp only [List.length_drop,List.length_take];rfl)) ?_;(with_reducible refine (cmp_isNaN_int.calls a0 false _ A3.out).mono ?_);rintro e w' ⟨rfl,⟨nd,rfl⟩⟩;refine ⟨_,rfl,?_⟩)|((with_reducible refine gate_callee (f:=77) rfl ?_);refine goesL_ (some 10) rfl rfl Try.func77 (by kernel_rfl) rfl #[.int .i64 a1] rfl (by (try simp only [List.map_toArray,List.map_cons,List.map_nil]);first|done|rfl|(simp only [List.length_drop,List.length_take];rfl)) ?_;(with_reducible refine (cmp_isNaN_int.calls a1 true _ A4.out).mono ?_);rintro e w' ⟨rfl,⟨nd,rfl⟩⟩;refine ⟨_,rfl,?_⟩))
   go_ret
   exact ⟨by first|rfl|(simp;done)|(simp [*];done),by repeat (first|exact Drawn0.refl _|apply Drawn0.step)⟩
  ·replace c7:=Bool.eq_false_iff.mpr c7
   subst c7
   have H1:(if a0<a1 then (some (-1)) else (if a0 > a1 then (some 1) else (some 0)))=some r:=by rw [if_neg (show ¬ (false=true) by decide)] at H;exact H
   clear H
   have H:=H1
   clear H1
   by_cases c8:a0<a1
   ·rw [if_pos c8] at H
    have c8b0:decide (a0<a1)=true:=decide_eq_true c8
    clear c8
    obtain rfl:=Option.some.inj H
    go_enter Try.func60,Try.ntmps60
    go_wp2_with (first|((with_reducible refine gate_callee (f:=77) rfl ?_);refine goesL_ (some 8) rfl rfl Try.func77 (by kernel_rfl) rfl #[.int .i64 a0] rfl (by (try simp only [List.map_toArray,List.map_cons,List.map_nil]);first|done|rfl|(simp only [List.length_drop,List.length_take];rfl)) ?_;(with_reducible refine (cmp_isNaN_int.calls a0 false _ A3.out).mono ?_);rintro e w' ⟨rfl,⟨nd,rfl⟩⟩;refine ⟨_,rfl,?_⟩)|((with_reducible refine gate_callee (f:=77) rfl ?_);refine goesL_ (some 10) rfl rfl Try.func77 (by kernel_rfl) rfl #[.int .i64 a1] rfl (by (try simp only [List.map_toArray,List.map_cons,List.map_nil]);first|done|rfl|(simp only [List.length_drop,List.length_take];rfl)) ?_;(with_reducible refine (cmp_isNaN_int.calls a1 false _ A4.out).mono ?_);rintro e w' ⟨rfl,⟨nd,rfl⟩⟩;refine ⟨_,rfl,?_⟩))
    go_ret
    exact ⟨by first|rfl|(simp;done)|(simp [*];done),by repeat (first|exact Drawn0.refl _|apply Drawn0.step)⟩
   ·rw [if_neg c8] at H
    have c8b0:decide (a0<a1)=false:=decide_eq_false c8
    clear c8
    by_cases c9:a0 > a1
    ·rw [if_pos c9] at H
     have c9b0:decide (a1<a0)=true:=decide_eq_true c9
     clear c9
     obtain rfl:=Option.some.inj H
     go_enter Try.func60,Try.ntmps60
     go_wp2_with (first|((with_reducible refine gate_callee (f:=77) rfl ?_);refine goesL_ (some 8) rfl rfl Try.func77 (by kernel_rfl) rfl #[.int .i64 a0] rfl (by (try simp only [List.map_toArray,List.map_cons,List.map_nil]);first|done|rfl|(simp only [List.length_drop,List.length_take];rfl)) ?_;(with_reducible refine (cmp_isNaN_int.calls a0 false _ A3.out).mono ?_);rintro e w' ⟨rfl,⟨nd,rfl⟩⟩;refine ⟨_,rfl,?_⟩)|((with_reducible refine gate_callee (f:=77) rfl ?_);refine goesL_ (some 10) rfl rfl Try.func77 (by kernel_rfl) rfl #[.int .i64 a1] rfl (by (try simp only [List.map_toArray,List.map_cons,List.map_nil]);first|done|rfl|(simp only [List.length_drop,List.length_take];rfl)) ?_;(with_reducible refine (cmp_isNaN_int.calls a1 false _ A4.out).mono ?_);rintro e w' ⟨rfl,⟨nd,rfl⟩⟩;refine ⟨_,rfl,?_⟩))
     go_ret
     exact ⟨by first|rfl|(simp;done)|(simp [*];done),by repeat (first|exact Drawn0.refl _|apply Drawn0.step)⟩
    ·rw [if_neg c9] at H
     have c9b0:decide (a1<a0)=false:=decide_eq_false c9
     clear c9
     obtain rfl:=Option.some.inj H
     go_enter Try.func60,Try.ntmps60
     go_wp2_with (first|((with_reducible refine gate_callee (f:=77) rfl ?_);refine goesL_ (some 8) rfl rfl Try.func77 (by kernel_rfl) rfl #[.int .i64 a0] rfl (by (try simp only [List.map_toArray,List.map_cons,List.map_nil]);first|done|rfl|(simp only [List.length_drop,List.length_take];rfl)) ?_;(with_reducible refine (cmp_isNaN_int.calls a0 false _ A3.out).mono ?_);rintro e w' ⟨rfl,⟨nd,rfl⟩⟩;refine ⟨_,rfl,?_⟩)|((with_reducible refine gate_callee (f:=77) rfl ?_);refine goesL_ (some 10) rfl rfl Try.func77 (by kernel_rfl) rfl #[.int .i64 a1] rfl (by (try simp only [List.map_toArray,List.map_cons,List.map_nil]);first|done|rfl|(simp only [List.length_drop,List.length_take];rfl)) ?_;(with_reducible refine (cmp_isNaN_int.calls a1 false _ A4.out).mono ?_);rintro e w' ⟨rfl,⟨nd,rfl⟩⟩;refine ⟨_,rfl,?_⟩))
     go_ret
     exact ⟨by first|rfl|(simp;done)|(simp [*];done),by repeat (first|exact Drawn0.refl _|apply Drawn0.step)⟩
/-! ### impl_FontOk_c1: function 59 -/
def impl_FontOk_c1.f (a0_0:Int) (a0_1:Int) (a1_0:Int) (a1_1:Int):Option (Int):=(cmp_Compare_int.f a0_0 a1_0).bind fun t198=>(some t198)
set_option maxHeartbeats 8000000 in
set_option maxRecDepth 100000 in
theorem impl_FontOk_c1.calls (a0_0:Int) (a0_1:Int) (a1_0:Int) (a1_1:Int) (r:Int) (w:World) (h:impl_FontOk_c1.f a0_0 a0_1 a1_0 a1_1=some r) :
  Calls Try.prog 59 #[.agg #[.int .i64 a0_0,.int .i64 a0_1],.agg #[.int .i64 a1_0,.int .i64 a1_1]] w fun e w'=>e=.returned (.int .i64 r)∧Below w.heap.size w w':=by
 have hu79:=Try.underlying79
 have HB:=Aside0.mk (Below.refl w.heap.size w)
 have H:((cmp_Compare_int.f a0_0 a1_0).bind fun t198=>(some t198))=some r:=h
 clear h
 replace H:=Option.bind_eq_some_iff.mp H
 obtain ⟨t198,A30,H⟩:=H
 replace H:(some t198)=some r:=H
 have A3:=Aside0.mk A30
 clear A30
 obtain rfl:=Option.some.inj H
 go_enter Try.func59,Try.ntmps59
 go_wp2_with (first|((with_reducible refine gate_dst (N:=2) rfl ?_);refine box_event ?hg (N:=2) ?hd (cs:=#[.int .i64 a0_0,.int .i64 a0_1]) (t:=79) ?hr ?_;(case hd=>rfl);(case hg=>rfl);(case hr=>first|(go_simp;done)|(go_simp;rfl));intro gb196 hg w4 hbox hb;have n0_:=Aside0.mk (below_step (by repeat (first|(with_reducible first|exact HB.out|apply below_alloc|apply pw_below_drewN|apply below_drew1)|exact HB.out)) hb);have n1_:=Aside0.mk (hbox);have n2_:=Aside0.mk ((by rw [hg];exact (below_size (by repeat (first|(with_reducible first|exact HB.out|apply below_alloc|apply pw_below_drewN|apply below_drew1)|exact HB.out))):w.heap.size≤gb196));have n3_:=Aside0.mk ((by rw [hg];exact (below_size (by repeat (first|(with_reducible first|exact HB.out|apply below_alloc|apply pw_below_drewN|apply below_drew1)|exact HB.out))):w.heap.size≤gb196));clear HB;have HB:=n0_;have BK196:=n1_;have GW196:=n2_;have GE196:=n3_;clear n0_ n1_ n2_ n3_;clear hb hbox hg)|((with_reducible refine gate_dst (N:=3) rfl ?_);refine box_event ?hg (N:=3) ?hd (cs:=#[.int .i64 a1_0,.int .i64 a1_1]) (t:=79) ?hr ?_;(case hd=>rfl);(case hg=>rfl);(case hr=>first|(go_simp;done)|(go_simp;rfl));intro gb197 hg w5 hbox hb;have n0_:=Aside0.mk (blk_below (g:=gb196) (o:=.cells #[.int .i64 a0_0,.int .i64 a0_1] 79 (0,0)) (by (with_reducible repeat (first|refine blk_drewN ?_ _|refine blk_drew ?_|refine blk_alloc ?_ _));exact BK196.out) hb);have n1_:=Aside0.mk (below_step (by repeat (first|(with_reducible first|exact HB.out|apply below_alloc|apply pw_below_drewN|apply below_drew1|refine below_set ?_ GE196.out)|exact HB.out)) hb);have n2_:=Aside0.mk (hbox);have n3_:=Aside0.mk ((by rw [hg];exact (below_size (by repeat (first|(with_reducible first|exact HB.out|apply below_alloc|apply pw_below_drewN|apply below_drew1|refine below_set ?_ GE196.out)|exact HB.out))):w.heap.size≤gb197));have n4_:=Aside0.mk ((by rw [hg];exact (below_size (by repeat (first|(with_reducible first|exact HB.out|apply below_alloc|apply pw_below_drewN|apply below_drew1|refine below_set ?_ GE196.out)|exact HB.out))):w.heap.size≤gb197));have n5_:=Aside0.mk ((by rw [hg];exact Nat.ne_of_lt (blk_lt (g:=gb196) (o:=.cells #[.int .i64 a0_0,.int .i64 a0_1] 79 (0,0)) (by (with_reducible repeat (first|refine blk_drewN ?_ _|refine blk_drew ?_|refine blk_alloc ?_ _));exact BK196.out)):gb196≠gb197));have n6_:=Aside0.mk ((by rw [hg];exact Nat.ne_of_gt (blk_lt (g:=gb196) (o:=.cells #[.int .i64 a0_0,.int .i64 a0_1] 79 (0,0)) (by (with_reducible repeat (first|refine blk_drewN ?_ _|refine blk_drew ?_|refine blk_alloc ?_ _));exact BK196.out)):gb197≠gb196));clear BK196;clear HB;have BK196:=n0_;have HB:=n1_;have BK197:=n2_;have GW197:=n3_;have GE197:=n4_;have NB196_197:=n5_;have NB197_196:=n6_;clear n0_ n1_ n2_ n3_ n4_ n5_ n6_;clear hb hbox hg;have hnb6:=NB196_197.out;have hnc6:=NB197_196.out;have hcz7_0:w5.cell? ⟨gb196,0,none⟩=some (.int .i64 a0_0):=(blk_cell BK196.out 0).trans rfl;have hcz7_1:w5.cell? ⟨gb196,1,none⟩=some (.int .i64 a0_1):=(blk_cell BK196.out 1).trans rfl;have hfz7_0:=blk_frozen BK196.out 0;have hfz7_1:=blk_frozen BK196.out 1;have hcz8_0:w5.cell? ⟨gb197,0,none⟩=some (.int .i64 a1_0):=(blk_cell BK197.out 0).trans rfl;have hcz8_1:w5.cell? ⟨gb197,1,none⟩=some (.int .i64 a1_1):=(blk_cell BK197.out 1).trans rfl;have hfz8_0:=blk_frozen BK197.out 0;have hfz8_1:=blk_frozen BK197.out 1)|((with_reducible refine gate_callee (f:=60) rfl ?_);refine goesL_ (some 9) rfl rfl Try.func60 (by kernel_rfl) rfl #[.int .i64 a0_0,.int .i64 a1_0] rfl (by (try simp only [List.map_toArray,List.map_cons,List.map_nil]);first|done|rfl|(simp only [List.length_drop,List.length_take];rfl)) ?_;(with_reducible refine (cmp_Compare_int.calls a0_0 a1_0 t198 _ A3.out).mono ?_);rintro e w' ⟨rfl,⟨nd,rfl⟩⟩;refine ⟨_,rfl,?_⟩))
 go_ret
 exact ⟨by first|rfl|(simp [errW_none,errW_some]<;>rfl)|(simp [*,errW_none,errW_some]<;>rfl),by repeat (first|(with_reducible first|exact HB.out|apply below_alloc|apply pw_below_drewN|apply below_drew1|refine below_set ?_ GE196.out|refine below_set ?_ GE197.out)|exact HB.out)⟩
end Go.Proofs.Ytiinihponcojkaa.QFnExactShape
