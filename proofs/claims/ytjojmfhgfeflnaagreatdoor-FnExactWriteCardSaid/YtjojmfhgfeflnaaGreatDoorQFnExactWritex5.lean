/- Written by a program (wip/tools/own_print.py) out of the walk that the kit's printer made; turned where it fell. -/
-- PRINTED by print.py (a twelfth state) out of the translation. Not trusted: Lean checks it.
import Derived.Test.YtjojmfhgfeflnaaGreatDoorMapObj
import Derived.Test.YtjojmfhgfeflnaaGreatDoorQFnExactWritex0
import Derived.Test.YtjojmfhgfeflnaaGreatDoorQFnExactWritex3
namespace Go.Proofs.YtjojmfhgfeflnaaGreatDoor.QFnExactWrite
open Go.RowKit Go.Proofs.YtjojmfhgfeflnaaGreatDoorV.PrintWords Go.Proofs.YtjojmfhgfeflnaaGreatDoorV.PrintLast Go.Proofs.YtjojmfhgfeflnaaGreatDoorV.PrintMore
attribute [local go_sem] max2_int min2_int max_two min_two max_three min_three max_four min_four   -- for this text's walks alone
open Go.Proofs.YtjojmfhgfeflnaaGreatDoor.MapObj
set_option linter.unusedVariables false
set_option linter.unusedSimpArgs false
private theorem zero_bool {W:World}:(zeroValue 4).run Tryz.prog W=.ok (.bool false) W:=by kernel_rfl
/-! ### spec_l3Is: function 47 -/
mutual
def spec_l3Is.l0:Nat→ByteArray→ByteArray→Int→Int→Option (Bool)
 |0,_,_,_,_=>none
 |k+1,x0,x1,x5,x6=>if x6≤(x1.size:Int) then (if x6=(x1.size:Int) then (spec_l3Is.j1 k x0 x1 x5 x6 true) else (if 0≤x6 then (if x6<(x1.size:Int) then (spec_l3Is.j1 k x0 x1 x5 x6 ((bt x1 x6)==32)) else (none)) else (none))) else (some false)
def spec_l3Is.j1:Nat→ByteArray→ByteArray→Int→Int→Bool→Option (Bool)
 |0,_,_,_,_,_=>none
 |k+1,x0,x1,x5,x6,x22=>if x22=true then (if x0.toList=([]:List UInt8) then (spec_l3Is.l0 k x0 x1 (wrap64 (x6+1)) (wrap64 (x6+1))) else (if 0≤x5 then (if x5≤x6 then (if x6≤(x1.size:Int) then (if (x1.extract (x5:Int).toNat (x6:Int).toNat).toList=x0.toList then (some true) else (spec_l3Is.l0 k x0 x1 (wrap64 (x6+1)) (wrap64 (x6+1)))) else (none)) else (none)) else (none))) else (spec_l3Is.l0 k x0 x1 x5 (wrap64 (x6+1)))
end
def spec_l3Is.f (k:Nat) (a0:ByteArray) (a1:ByteArray):Option (Bool):=spec_l3Is.l0 k a0 a1 0 0
theorem spec_l3Is.mono_l:∀ k,(∀ y0 y1 y2 y3,LeO (spec_l3Is.l0 k y0 y1 y2 y3) (spec_l3Is.l0 (k+1) y0 y1 y2 y3))∧(∀ y0 y1 y2 y3 y4,LeO (spec_l3Is.j1 k y0 y1 y2 y3 y4) (spec_l3Is.j1 (k+1) y0 y1 y2 y3 y4))
 |0=>⟨fun _ _ _ _ r h=>by simp [spec_l3Is.l0] at h,fun _ _ _ _ _ r h=>by simp [spec_l3Is.j1] at h⟩
 |k+1=>by
  obtain ⟨ih0,ih1⟩:=spec_l3Is.mono_l k
  refine ⟨?_,?_⟩
  ·intro y0 y1 y2 y3
   unfold spec_l3Is.l0
   repeat' first
   |(with_reducible exact ih0 _ _ _ _)
   |(with_reducible exact ih1 _ _ _ _ _)
   |(with_reducible exact LeO.refl _)
   |(with_reducible exact LeO.none _)
   |(with_reducible refine LeO.ite ?_ ?_)
   |(with_reducible refine LeO.bind ?_ (fun _=>?_))
   |exact ih0 _ _ _ _
   |exact ih1 _ _ _ _ _
   |exact LeO.none _
   |refine LeO.ite ?_ ?_
   |refine LeO.bind ?_ (fun _=>?_)
  ·intro y0 y1 y2 y3 y4
   unfold spec_l3Is.j1
   repeat' first
   |(with_reducible exact ih0 _ _ _ _)
   |(with_reducible exact ih1 _ _ _ _ _)
   |(with_reducible exact LeO.refl _)
   |(with_reducible exact LeO.none _)
   |(with_reducible refine LeO.ite ?_ ?_)
   |(with_reducible refine LeO.bind ?_ (fun _=>?_))
   |exact ih0 _ _ _ _
   |exact ih1 _ _ _ _ _
   |exact LeO.none _
   |refine LeO.ite ?_ ?_
   |refine LeO.bind ?_ (fun _=>?_)
theorem spec_l3Is.mono:∀ a0 a1 k,LeO (spec_l3Is.f k a0 a1) (spec_l3Is.f (k+1) a0 a1):=by
 intro a0 a1 k
 obtain ⟨ih0,ih1⟩:=spec_l3Is.mono_l k
 unfold spec_l3Is.f
 repeat' first
   |(with_reducible exact ih0 _ _ _ _)
   |(with_reducible exact ih1 _ _ _ _ _)
   |(with_reducible exact LeO.refl _)
   |(with_reducible exact LeO.none _)
   |(with_reducible refine LeO.ite ?_ ?_)
   |(with_reducible refine LeO.bind ?_ (fun _=>?_))
   |exact ih0 _ _ _ _
   |exact ih1 _ _ _ _ _
   |exact LeO.none _
   |refine LeO.ite ?_ ?_
   |refine LeO.bind ?_ (fun _=>?_)
set_option maxHeartbeats 8000000 in
set_option maxRecDepth 100000 in
theorem spec_l3Is.calls (k:Nat) (a0:ByteArray) (a1:ByteArray) (r:Bool) (w:World) (h:spec_l3Is.f k a0 a1=some r) :
  Calls Tryz.prog 47 #[.string a0,.string a1] w fun e w'=>e=.returned (.bool r)∧Drawn0 w w':=by
 have H:(spec_l3Is.l0 k a0 a1 0 0)=some r:=h
 clear h
 have H':=Aside0.mk H
 clear H
 go_enter Tryz.func47,Tryz.ntmps47
 go_wp2
 go_loopg [5,6] k (fun kq v5 v6 w'=>∃ (x5_1:Int) (x6_1:Int),v5=.int .i64 x5_1∧v6=.int .i64 x6_1∧Aside0 (spec_l3Is.l0 kq a0 a1 x5_1 x6_1=some r)∧Aside0 (kq≤k)∧Drawn0 w w')
 case atStart=>exact ⟨(0),(0),(by first|rfl|(simp;done)|(simp [*];done)),(by first|rfl|(simp;done)|(simp [*];done)),H',⟨Nat.le_refl _⟩,by repeat (first|exact Drawn0.refl _|apply Drawn0.step)⟩
 case round=>
  clear H'
  try clear p2
  obtain ⟨x5_1,x6_1,rfl,rfl,HA,HK1,⟨m1,rfl⟩⟩:=hrel
  cases gk with
  |zero=>exact absurd HA.out (by simp [spec_l3Is.l0])
  |succ k1=>
   have H:=HA.out
   clear HA
   simp only [spec_l3Is.l0] at H
   by_cases c3:x6_1≤(a1.size:Int)
   ·rw [if_pos c3] at H
    have c3b0:decide (x6_1≤(a1.size:Int))=true:=decide_eq_true c3
    clear c3
    have HC4:=Aside0.mk H
    clear H
    go_upto_region 5 with (fail)
    go_cut [22] (fun v22 wc=>∃ (kq:Nat) (x22_3:Bool),v22=.bool x22_3∧Aside0 (spec_l3Is.j1 kq a0 a1 x5_1 x6_1 x22_3=some r)∧Aside0 (kq≤k1)∧Drawn0 w wc)
    case first=>
     have H:=HC4.out
     clear HC4
     by_cases c5:x6_1=(a1.size:Int)
     ·rw [if_pos c5] at H
      have c5b0:(x6_1==(a1.size:Int))=true:=beq_iff_eq.mpr c5
      have c5b1:(x6_1 != (a1.size:Int))=false:=bne_eq_false_iff_eq.mpr c5
      clear c5
      (first|rw [c5b0]|(simp only [i64_w,i32_w];rw [c5b0])|rw [c5b1]|skip)
      have H':=Aside0.mk H
      clear H
      go_wp2
      go_meet
      case rel=>exact ⟨_,(true),(by first|rfl|(simp;done)|(simp [*];done)),H',⟨by have:=HK1.out;first|omega|exact Nat.le_refl _⟩,by repeat (first|exact Drawn0.refl _|apply Drawn0.step)⟩
     ·rw [if_neg c5] at H
      have c5b0:(x6_1==(a1.size:Int))=false:=beq_eq_false_iff_ne.mpr c5
      have c5b1:(x6_1 != (a1.size:Int))=true:=bne_iff_ne.mpr c5
      (first|rw [c5b0]|(simp only [i64_w,i32_w];rw [c5b0])|rw [c5b1]|skip)
      by_cases c6:0≤x6_1
      ·rw [if_pos c6] at H
       have c6b0:decide (0≤x6_1)=true:=decide_eq_true c6
       clear c6
       by_cases c7:x6_1<(a1.size:Int)
       ·rw [if_pos c7] at H
        have c7b0:decide (x6_1<(a1.size:Int))=true:=decide_eq_true c7
        clear c7
        have H':=Aside0.mk H
        clear H
        have p8:0≤(x6_1:Int):=of_decide_eq_true (by first|(with_reducible assumption)|assumption)
        have q8:x6_1<(a1.size:Int):=of_decide_eq_true (by first|(with_reducible assumption)|assumption)
        have hx8:=bt_at a1 x6_1
        replace p8:=eq_true p8
        replace q8:=eq_true q8
        go_wp2
        go_meet
        case rel=>exact ⟨_,(((bt a1 x6_1)==32)),(by first|rfl|(simp;done)|(simp [*];done)),H',⟨by have:=HK1.out;first|omega|exact Nat.le_refl _⟩,by repeat (first|exact Drawn0.refl _|apply Drawn0.step)⟩
       ·rw [if_neg c7] at H
        exact absurd H (by simp)
      ·rw [if_neg c6] at H
       exact absurd H (by simp)
    case rest=>
     clear HC4
     try clear p2
     try clear c3
     try clear c3b0
     try clear c4
     try clear c5
     try clear c5b0
     try clear c5b1
     try clear c6
     try clear c6b0
     try clear c7
     try clear c7b0
     try clear p8
     try clear q8
     try clear hx8
     try clear p2
     try clear p8
     try clear q8
     obtain ⟨kq,x22_3,rfl,HA,HJ3,⟨mc3,rfl⟩⟩:=hcut
     cases kq with
     |zero=>exact absurd HA.out (by simp [spec_l3Is.j1])
     |succ kj3=>
      have H:=HA.out
      clear HA
      simp only [spec_l3Is.j1] at H
      by_cases c9:x22_3=true
      ·subst c9
       have H1:(if a0.toList=([]:List UInt8) then (spec_l3Is.l0 kj3 a0 a1 (wrap64 (x6_1+1)) (wrap64 (x6_1+1))) else (if 0≤x5_1 then (if x5_1≤x6_1 then (if x6_1≤(a1.size:Int) then (if (a1.extract (x5_1:Int).toNat (x6_1:Int).toNat).toList=a0.toList then (some true) else (spec_l3Is.l0 kj3 a0 a1 (wrap64 (x6_1+1)) (wrap64 (x6_1+1)))) else (none)) else (none)) else (none)))=some r:=by rw [if_pos rfl] at H;exact H
       clear H
       have H:=H1
       clear H1
       by_cases c10:a0.toList=([]:List UInt8)
       ·rw [if_pos c10] at H
        have c10b0:(a0.toList==([]:List UInt8))=true:=beq_iff_eq.mpr c10
        have c10b1:(a0.toList != ([]:List UInt8))=false:=bne_eq_false_iff_eq.mpr c10
        clear c10
        have H':=Aside0.mk H
        clear H
        go_wp2
        go_roundg kj3
        case measure=>have:=HK1.out;have:=HJ3.out;omega
        case rel=>exact ⟨(wrap64 (x6_1+1)),(wrap64 (x6_1+1)),(by first|rfl|(simp;done)|(simp [*];done)),(by first|rfl|(simp;done)|(simp [*];done)),H',⟨by have:=HK1.out;have:=HJ3.out;omega⟩,by repeat (first|exact Drawn0.refl _|apply Drawn0.step)⟩
       ·rw [if_neg c10] at H
        have c10b0:(a0.toList==([]:List UInt8))=false:=beq_eq_false_iff_ne.mpr c10
        have c10b1:(a0.toList != ([]:List UInt8))=true:=bne_iff_ne.mpr c10
        by_cases c11:0≤x5_1
        ·rw [if_pos c11] at H
         have c11b0:=eq_true c11
         have c11b1:decide (0≤x5_1)=true:=decide_eq_true c11
         clear c11
         by_cases c12:x5_1≤x6_1
         ·rw [if_pos c12] at H
          have c12b0:=eq_true c12
          have c12b1:decide (x5_1≤x6_1)=true:=decide_eq_true c12
          clear c12
          by_cases c13:x6_1≤(a1.size:Int)
          ·rw [if_pos c13] at H
           have c13b0:=eq_true c13
           have c13b1:decide (x6_1≤(a1.size:Int))=true:=decide_eq_true c13
           clear c13
           by_cases c14:(a1.extract (x5_1:Int).toNat (x6_1:Int).toNat).toList=a0.toList
           ·rw [if_pos c14] at H
            have c14b0:((a1.extract (x5_1:Int).toNat (x6_1:Int).toNat).toList==a0.toList)=true:=beq_iff_eq.mpr c14
            have c14b1:((a1.extract (x5_1:Int).toNat (x6_1:Int).toNat).toList != a0.toList)=false:=bne_eq_false_iff_eq.mpr c14
            clear c14
            obtain rfl:=Option.some.inj H
            go_wp2
            go_ret
            exact ⟨by first|rfl|(simp;done)|(simp [*];done),by repeat (first|exact Drawn0.refl _|apply Drawn0.step)⟩
           ·rw [if_neg c14] at H
            have c14b0:((a1.extract (x5_1:Int).toNat (x6_1:Int).toNat).toList==a0.toList)=false:=beq_eq_false_iff_ne.mpr c14
            have c14b1:((a1.extract (x5_1:Int).toNat (x6_1:Int).toNat).toList != a0.toList)=true:=bne_iff_ne.mpr c14
            have H':=Aside0.mk H
            clear H
            go_wp2
            go_roundg kj3
            case measure=>have:=HK1.out;have:=HJ3.out;omega
            case rel=>exact ⟨(wrap64 (x6_1+1)),(wrap64 (x6_1+1)),(by first|rfl|(simp;done)|(simp [*];done)),(by first|rfl|(simp;done)|(simp [*];done)),H',⟨by have:=HK1.out;have:=HJ3.out;omega⟩,by repeat (first|exact Drawn0.refl _|apply Drawn0.step)⟩
          ·rw [if_neg c13] at H
           exact absurd H (by simp)
         ·rw [if_neg c12] at H
          exact absurd H (by simp)
        ·rw [if_neg c11] at H
         exact absurd H (by simp)
      ·replace c9:=Bool.eq_false_iff.mpr c9
       subst c9
       have H1:(spec_l3Is.l0 kj3 a0 a1 x5_1 (wrap64 (x6_1+1)))=some r:=by rw [if_neg (show ¬ (false=true) by decide)] at H;exact H
       clear H
       have H:=H1
       clear H1
       have H':=Aside0.mk H
       clear H
       go_wp2
       go_roundg kj3
       case measure=>have:=HK1.out;have:=HJ3.out;omega
       case rel=>exact ⟨(x5_1),(wrap64 (x6_1+1)),(by first|rfl|(simp;done)|(simp [*];done)),(by first|rfl|(simp;done)|(simp [*];done)),H',⟨by have:=HK1.out;have:=HJ3.out;omega⟩,by repeat (first|exact Drawn0.refl _|apply Drawn0.step)⟩
   ·rw [if_neg c3] at H
    have c3b0:decide (x6_1≤(a1.size:Int))=false:=decide_eq_false c3
    clear c3
    obtain rfl:=Option.some.inj H
    go_wp2
    go_ret
    exact ⟨by first|rfl|(simp;done)|(simp [*];done),by repeat (first|exact Drawn0.refl _|apply Drawn0.step)⟩
/-! ### spec_l4Void: function 36 -/
def spec_l4Void.f (k:Nat) (a0:ByteArray):Option (Bool):=(spec_l3Is.f k a0 (⟨#[98,114,32,104,114,32,105,109,103,32,105,110,112,117,116,32,109,101,116,97,32,108,105,110,107,32,99,111,108]⟩:ByteArray)).bind fun t167=>(some t167)
theorem spec_l4Void.mono:∀ a0 k,LeO (spec_l4Void.f k a0) (spec_l4Void.f (k+1) a0):=by
 intro a0 k
 unfold spec_l4Void.f
 repeat' first
   |(with_reducible exact spec_l3Is.mono _ _ _)
   |(with_reducible exact LeO.refl _)
   |(with_reducible exact LeO.none _)
   |(with_reducible refine LeO.ite ?_ ?_)
   |(with_reducible refine LeO.bind ?_ (fun _=>?_))
   |exact spec_l3Is.mono _ _ _
   |exact LeO.none _
   |refine LeO.ite ?_ ?_
   |refine LeO.bind ?_ (fun _=>?_)
set_option maxHeartbeats 8000000 in
set_option maxRecDepth 100000 in
theorem spec_l4Void.calls (k:Nat) (a0:ByteArray) (r:Bool) (w:World) (h:spec_l4Void.f k a0=some r) :
  Calls Tryz.prog 36 #[.string a0] w fun e w'=>e=.returned (.bool r)∧Drawn0 w w':=by
 have H:((spec_l3Is.f k a0 (⟨#[98,114,32,104,114,32,105,109,103,32,105,110,112,117,116,32,109,101,116,97,32,108,105,110,107,32,99,111,108]⟩:ByteArray)).bind fun t167=>(some t167))=some r:=h
 clear h
 replace H:=Option.bind_eq_some_iff.mp H
 obtain ⟨t167,A20,H⟩:=H
 replace H:(some t167)=some r:=H
 have A2:=Aside0.mk A20
 clear A20
 obtain rfl:=Option.some.inj H
 go_enter Tryz.func36,Tryz.ntmps36
 go_wp2_with (first|((with_reducible refine gate_callee (f:=47) rfl ?_);refine goesL_ (some 4) rfl rfl Tryz.func47 (by kernel_rfl) rfl #[.string a0,.string (⟨#[98,114,32,104,114,32,105,109,103,32,105,110,112,117,116,32,109,101,116,97,32,108,105,110,107,32,99,111,108]⟩:ByteArray)] rfl (by (try simp only [List.map_toArray,List.map_cons,List.map_nil]);first|done|rfl|(simp only [List.length_drop,List.length_take];rfl)) ?_;(with_reducible refine (spec_l3Is.calls k a0 (⟨#[98,114,32,104,114,32,105,109,103,32,105,110,112,117,116,32,109,101,116,97,32,108,105,110,107,32,99,111,108]⟩:ByteArray) t167 _ A2.out).mono ?_);rintro e w' ⟨rfl,⟨nd,rfl⟩⟩;refine ⟨_,rfl,?_⟩))
 go_ret
 exact ⟨by first|rfl|(simp;done)|(simp [*];done),by repeat (first|exact Drawn0.refl _|apply Drawn0.step)⟩
/-! ### laws_toAttr: function 48 -/
def laws_toAttr.f (a0_0:ByteArray) (a0_1:ByteArray):Option (ByteArray×ByteArray):=some (a0_0,a0_1)
set_option maxHeartbeats 8000000 in
set_option maxRecDepth 100000 in
theorem laws_toAttr.calls (a0_0:ByteArray) (a0_1:ByteArray) (r1:ByteArray) (r2:ByteArray) (w:World) (h:laws_toAttr.f a0_0 a0_1=some (r1,r2)) :
  Calls Tryz.prog 48 #[.agg #[.string a0_0,.string a0_1]] w fun e w'=>e=.returned (.agg #[.string r1,.string r2])∧Below w.heap.size w w':=by
 have hu91:=Tryz.underlying91
 have hu77:=Tryz.underlying77
 have HB:=Aside0.mk (Below.refl w.heap.size w)
 have H:(some (a0_0,a0_1))=some (r1,r2):=h
 clear h
 simp only [Option.some.injEq,Prod.mk.injEq] at H
 obtain ⟨rfl,rfl⟩:=H
 go_enter Tryz.func48,Tryz.ntmps48
 go_wp2_with (first|((with_reducible refine gate_dst (N:=1) rfl ?_);refine box_event ?hg (N:=1) ?hd (cs:=#[.string a0_0,.string a0_1]) (t:=91) ?hr ?_;(case hd=>rfl);(case hg=>rfl);(case hr=>first|(go_simp;done)|(go_simp;rfl));intro gb205 hg w2 hbox hb;have n0_:=Aside0.mk (below_step (by repeat (first|(with_reducible first|exact HB.out|apply below_alloc|apply pw_below_drewN|apply below_drew1)|exact HB.out)) hb);have n1_:=Aside0.mk (hbox);have n2_:=Aside0.mk ((by rw [hg];exact (below_size (by repeat (first|(with_reducible first|exact HB.out|apply below_alloc|apply pw_below_drewN|apply below_drew1)|exact HB.out))):w.heap.size≤gb205));have n3_:=Aside0.mk ((by rw [hg];exact (below_size (by repeat (first|(with_reducible first|exact HB.out|apply below_alloc|apply pw_below_drewN|apply below_drew1)|exact HB.out))):w.heap.size≤gb205));clear HB;have HB:=n0_;have BK205:=n1_;have GW205:=n2_;have GE205:=n3_;clear n0_ n1_ n2_ n3_;clear hb hbox hg)|((with_reducible refine gate_dst (N:=2) rfl ?_);refine box_event ?hg (N:=2) ?hd (cs:=#[.string (⟨#[]⟩:ByteArray),.string (⟨#[]⟩:ByteArray)]) (t:=77) ?hr ?_;(case hd=>rfl);(case hg=>rfl);(case hr=>first|(go_simp;done)|(go_simp;rfl));intro gb206 hg w3 hbox hb;have n0_:=Aside0.mk (blk_below (g:=gb205) (o:=.cells #[.string a0_0,.string a0_1] 91 (0,0)) (by (with_reducible repeat (first|refine blk_drewN ?_ _|refine blk_drew ?_|refine blk_alloc ?_ _));exact BK205.out) hb);have n1_:=Aside0.mk (below_step (by repeat (first|(with_reducible first|exact HB.out|apply below_alloc|apply pw_below_drewN|apply below_drew1|refine below_set ?_ GE205.out)|exact HB.out)) hb);have n2_:=Aside0.mk (hbox);have n3_:=Aside0.mk ((by rw [hg];exact (below_size (by repeat (first|(with_reducible first|exact HB.out|apply below_alloc|apply pw_below_drewN|apply below_drew1|refine below_set ?_ GE205.out)|exact HB.out))):w.heap.size≤gb206));have n4_:=Aside0.mk ((by rw [hg];exact (below_size (by repeat (first|(with_reducible first|exact HB.out|apply below_alloc|apply pw_below_drewN|apply below_drew1|refine below_set ?_ GE205.out)|exact HB.out))):w.heap.size≤gb206));have n5_:=Aside0.mk ((by rw [hg];exact Nat.ne_of_lt (blk_lt (g:=gb205) (o:=.cells #[.string a0_0,.string a0_1] 91 (0,0)) (by (with_reducible repeat (first|refine blk_drewN ?_ _|refine blk_drew ?_|refine blk_alloc ?_ _));exact BK205.out)):gb205≠gb206));have n6_:=Aside0.mk ((by rw [hg];exact Nat.ne_of_gt (blk_lt (g:=gb205) (o:=.cells #[.string a0_0,.string a0_1] 91 (0,0)) (by (with_reducible repeat (first|refine blk_drewN ?_ _|refine blk_drew ?_|refine blk_alloc ?_ _));exact BK205.out)):gb206≠gb205));clear BK205;clear HB;have BK205:=n0_;have HB:=n1_;have BK206:=n2_;have GW206:=n3_;have GE206:=n4_;have NB205_206:=n5_;have NB206_205:=n6_;clear n0_ n1_ n2_ n3_ n4_ n5_ n6_;clear hb hbox hg)|((with_reducible refine gate_dst (N:=3) rfl ?_);refine box_event ?hg (N:=3) ?hd (cs:=#[.string (⟨#[]⟩:ByteArray),.string (⟨#[]⟩:ByteArray)]) (t:=77) ?hr ?_;(case hd=>rfl);(case hg=>rfl);(case hr=>first|(go_simp;done)|(go_simp;rfl));intro gb207 hg w4 hbox hb;have n0_:=Aside0.mk (blk_below (g:=gb205) (o:=.cells #[.string a0_0,.string a0_1] 91 (0,0)) (by (with_reducible repeat (first|refine blk_drewN ?_ _|refine blk_drew ?_|refine blk_alloc ?_ _));exact BK205.out) hb);have n1_:=Aside0.mk (blk_below (g:=gb206) (o:=.cells #[.string (⟨#[]⟩:ByteArray),.string (⟨#[]⟩:ByteArray)] 77 (0,0)) (by (with_reducible repeat (first|refine blk_drewN ?_ _|refine blk_drew ?_|refine blk_alloc ?_ _));exact BK206.out) hb);have n2_:=Aside0.mk (below_step (by repeat (first|(with_reducible first|exact HB.out|apply below_alloc|apply pw_below_drewN|apply below_drew1|refine below_set ?_ GE205.out|refine below_set ?_ GE206.out)|exact HB.out)) hb);have n3_:=Aside0.mk (hbox);have n4_:=Aside0.mk ((by rw [hg];exact (below_size (by repeat (first|(with_reducible first|exact HB.out|apply below_alloc|apply pw_below_drewN|apply below_drew1|refine below_set ?_ GE205.out|refine below_set ?_ GE206.out)|exact HB.out))):w.heap.size≤gb207));have n5_:=Aside0.mk ((by rw [hg];exact (below_size (by repeat (first|(with_reducible first|exact HB.out|apply below_alloc|apply pw_below_drewN|apply below_drew1|refine below_set ?_ GE205.out|refine below_set ?_ GE206.out)|exact HB.out))):w.heap.size≤gb207));have n6_:=Aside0.mk ((by rw [hg];exact Nat.ne_of_lt (blk_lt (g:=gb205) (o:=.cells #[.string a0_0,.string a0_1] 91 (0,0)) (by (with_reducible repeat (first|refine blk_drewN ?_ _|refine blk_drew ?_|refine blk_alloc ?_ _));exact BK205.out)):gb205≠gb207));have n7_:=Aside0.mk ((by rw [hg];exact Nat.ne_of_gt (blk_lt (g:=gb205) (o:=.cells #[.string a0_0,.string a0_1] 91 (0,0)) (by (with_reducible repeat (first|refine blk_drewN ?_ _|refine blk_drew ?_|refine blk_alloc ?_ _));exact BK205.out)):gb207≠gb205));have n8_:=Aside0.mk ((by rw [hg];exact Nat.ne_of_lt (blk_lt (g:=gb206) (o:=.cells #[.string (⟨#[]⟩:ByteArray),.string (⟨#[]⟩:ByteArray)] 77 (0,0)) (by (with_reducible repeat (first|refine blk_drewN ?_ _|refine blk_drew ?_|refine blk_alloc ?_ _));exact BK206.out)):gb206≠gb207));have n9_:=Aside0.mk ((by rw [hg];exact Nat.ne_of_gt (blk_lt (g:=gb206) (o:=.cells #[.string (⟨#[]⟩:ByteArray),.string (⟨#[]⟩:ByteArray)] 77 (0,0)) (by (with_reducible repeat (first|refine blk_drewN ?_ _|refine blk_drew ?_|refine blk_alloc ?_ _));exact BK206.out)):gb207≠gb206));clear BK205;clear BK206;clear HB;have BK205:=n0_;have BK206:=n1_;have HB:=n2_;have BK207:=n3_;have GW207:=n4_;have GE207:=n5_;have NB205_207:=n6_;have NB207_205:=n7_;have NB206_207:=n8_;have NB207_206:=n9_;clear n0_ n1_ n2_ n3_ n4_ n5_ n6_ n7_ n8_ n9_;clear hb hbox hg;have hnb5:=NB205_206.out;have hnc5:=NB206_205.out;have hnb6:=NB205_207.out;have hnc6:=NB207_205.out;have hcz7_0:w4.cell? ⟨gb205,0,none⟩=some (.string a0_0):=(blk_cell BK205.out 0).trans rfl;have hcz7_1:w4.cell? ⟨gb205,1,none⟩=some (.string a0_1):=(blk_cell BK205.out 1).trans rfl;have hfz7_0:=blk_frozen BK205.out 0;have hfz7_1:=blk_frozen BK205.out 1;have hnb8:=NB207_206.out;have hnc8:=NB206_207.out;have hcz9_0:w4.cell? ⟨gb207,0,none⟩=some (.string (⟨#[]⟩:ByteArray)):=(blk_cell BK207.out 0).trans rfl;have hcz9_1:w4.cell? ⟨gb207,1,none⟩=some (.string (⟨#[]⟩:ByteArray)):=(blk_cell BK207.out 1).trans rfl;have hfz9_0:=blk_frozen BK207.out 0;have hfz9_1:=blk_frozen BK207.out 1;have hcz10_0:w4.cell? ⟨gb206,0,none⟩=some (.string (⟨#[]⟩:ByteArray)):=(blk_cell BK206.out 0).trans rfl;have hcz10_1:w4.cell? ⟨gb206,1,none⟩=some (.string (⟨#[]⟩:ByteArray)):=(blk_cell BK206.out 1).trans rfl;have hfz10_0:=blk_frozen BK206.out 0;have hfz10_1:=blk_frozen BK206.out 1))
 refine bodyPost_ret (results_cell_row rfl _ _ gb206 77 #[.string a0_0,.string a0_1] (0,0) _ rfl (by (with_reducible repeat (first|refine blk_drewN ?_ _|refine blk_drew ?_|refine blk_alloc ?_ _));refine blk_put (cs:=#[.string a0_0,.string (⟨#[]⟩:ByteArray)]) ?_ 1 _ rfl;(with_reducible repeat (first|refine blk_drewN ?_ _|refine blk_drew ?_|refine blk_alloc ?_ _));refine blk_put (cs:=#[.string (⟨#[]⟩:ByteArray),.string (⟨#[]⟩:ByteArray)]) ?_ 0 _ rfl;(with_reducible repeat (first|refine blk_drewN ?_ _|refine blk_drew ?_|refine blk_alloc ?_ _));refine blk_far ?_ NB206_207.out _;(with_reducible repeat (first|refine blk_drewN ?_ _|refine blk_drew ?_|refine blk_alloc ?_ _));refine blk_far ?_ NB206_207.out _;(with_reducible repeat (first|refine blk_drewN ?_ _|refine blk_drew ?_|refine blk_alloc ?_ _));exact BK206.out) Tryz.underlying77 rfl (by kernel_rfl)) rfl ?_
 exact ⟨by first|rfl|(simp [errW_none,errW_some]<;>rfl)|(simp [*,errW_none,errW_some]<;>rfl),by repeat (first|(with_reducible first|exact HB.out|apply below_alloc|apply pw_below_drewN|apply below_drew1|refine below_set ?_ GE205.out|refine below_set ?_ GE206.out|refine below_set ?_ GE207.out)|exact HB.out)⟩
/-! ### laws_toAttrS: function 37 -/
def laws_toAttrS.l0:Nat→List (S91)→List (S77)→Int→Option ((List (S77)))
 |0,_,_,_=>none
 |k+1,x0,x3,x4=>if x4<(x0.length:Int) then (if 0≤x4 then ((laws_toAttr.f ((rd_T91 x0 x4).f0) ((rd_T91 x0 x4).f1)).bind fun bt212=>(if x4<(x3.length:Int) then (laws_toAttrS.l0 k x0 (x3.set (x4:Int).toNat (⟨bt212.1,bt212.2⟩:S77)) (wrap64 (x4+1))) else (none))) else (none)) else (some x3)
def laws_toAttrS.f (k:Nat) (l0:List (S91)):Option ((List (S77))):=if 0≤(l0.length:Int) then (if ((l0.length:Int):Int).toNat≤8796093022208 then (laws_toAttrS.l0 k l0 (List.replicate ((l0.length:Int):Int).toNat z77) 0) else (none)) else (none)
theorem laws_toAttrS.mono_l:∀ k,(∀ y0 y1 y2,LeO (laws_toAttrS.l0 k y0 y1 y2) (laws_toAttrS.l0 (k+1) y0 y1 y2))
 |0=>fun _ _ _ r h=>by simp [laws_toAttrS.l0] at h
 |k+1=>by
  have ih0:=laws_toAttrS.mono_l k
  ·intro y0 y1 y2
   unfold laws_toAttrS.l0
   repeat' first
   |(with_reducible exact ih0 _ _ _)
   |(with_reducible exact LeO.refl _)
   |(with_reducible exact LeO.none _)
   |(with_reducible refine LeO.ite ?_ ?_)
   |(with_reducible refine LeO.bind ?_ (fun _=>?_))
   |exact ih0 _ _ _
   |exact LeO.none _
   |refine LeO.ite ?_ ?_
   |refine LeO.bind ?_ (fun _=>?_)
theorem laws_toAttrS.mono:∀ a0 k,LeO (laws_toAttrS.f k a0) (laws_toAttrS.f (k+1) a0):=by
 intro a0 k
 have ih0:=laws_toAttrS.mono_l k
 unfold laws_toAttrS.f
 repeat' first
   |(with_reducible exact ih0 _ _ _)
   |(with_reducible exact LeO.refl _)
   |(with_reducible exact LeO.none _)
   |(with_reducible refine LeO.ite ?_ ?_)
   |(with_reducible refine LeO.bind ?_ (fun _=>?_))
   |exact ih0 _ _ _
   |exact LeO.none _
   |refine LeO.ite ?_ ?_
   |refine LeO.bind ?_ (fun _=>?_)
set_option maxHeartbeats 8000000 in
set_option maxRecDepth 100000 in
theorem laws_toAttrS.calls (k:Nat) (A0:Option Addr) (c0:Nat) (l0:List (S91)) (r:List (S77)) (w:World) (hr0:Kd.C k91 w A0 l0.length l0) (hc0:l0.length≤c0) (h:laws_toAttrS.f k l0=some r) :
  Calls Tryz.prog 37 #[.slice A0 l0.length c0] w fun e w'=>∃ v0_:Value,e=.returned (v0_)∧Kd.R k77 77 w' w.heap.size (fun _=>True) v0_ r∧Below w.heap.size w w':=by
 have hu91:=Tryz.underlying91
 have hu77:=Tryz.underlying77
 have HR0:=Aside0.mk hr0
 have HC0:=Aside0.mk hc0
 clear hr0 hc0
 have HB:=Aside0.mk (Below.refl w.heap.size w)
 have H:(if 0≤(l0.length:Int) then (if ((l0.length:Int):Int).toNat≤8796093022208 then (laws_toAttrS.l0 k l0 (List.replicate ((l0.length:Int):Int).toNat z77) 0) else (none)) else (none))=some r:=h
 clear h
 by_cases c2:0≤(l0.length:Int)
 ·rw [if_pos c2] at H
  have c2b0:=eq_true c2
  have c2b1:decide (0≤(l0.length:Int))=true:=decide_eq_true c2
  clear c2
  by_cases c3:((l0.length:Int):Int).toNat≤8796093022208
  ·rw [if_pos c3] at H
   have c3b0:=eq_true c3
   have c3b1:decide (((l0.length:Int):Int).toNat≤8796093022208)=true:=decide_eq_true c3
   clear c3
   obtain ⟨y208,hy208⟩:∃ y_:List (S77),y_=(List.replicate ((l0.length:Int):Int).toNat z77):=⟨_,rfl⟩
   replace H:(laws_toAttrS.l0 k l0 y208 0)=some r:=by first|(rw [hy208];with_reducible exact H)|(have H2_:=(Option.bind_some _ _).symm.trans H;rw [hy208];with_reducible exact H2_)|(have H2_:=(Option.bind_some _ _).symm.trans H;with_reducible exact H2_)|with_reducible exact H|(rw [hy208];exact H)|exact H
   have Ny208:=Aside0.mk hy208
   clear hy208
   have H':=Aside0.mk H
   clear H
   go_enter Tryz.func37,Tryz.ntmps37
   go_wp2_with (first|((with_reducible refine gate_dst (N:=7) rfl ?_);refine Kd.R_make k77 _ 77 rfl (N:=7) rfl 55 _ _ rfl (l0.length:Int) rfl rfl Tryz.underlying55 (.agg #[(.string ⟨#[]⟩),(.string ⟨#[]⟩)]) 32 info77 rfl (by decide) (by omega) z77 (ok:=fun _=>True) (okp:=fun _=>True) (k77_mkM _ _ _ z77) (fun _ hk=>hk) trivial (of_decide_eq_true (by first|(with_reducible assumption)|assumption)) (Nat.le_trans (Nat.mul_le_mul_right _ (of_decide_eq_true (by first|(with_reducible assumption)|assumption):(l0.length:Int).toNat≤8796093022208)) (by omega)) (Below.refl _ _) (Nat.le_refl _) ?_;intro v209 w4 ho5 hb hg_ hnew_;clear hg_ hnew_;(first|rw [← Ny208.out] at ho5|(simp only [Int.reduceToNat] at ho5;rw [← Ny208.out] at ho5));have n0_:=Aside0.mk (Kd.R_lower ho5 (below_size (by repeat (first|(with_reducible first|exact HB.out|apply below_alloc|apply pw_below_drewN|apply below_drew1)|exact HB.out))));have n1_:=Aside0.mk (below_step (by repeat (first|(with_reducible first|exact HB.out|apply below_alloc|apply pw_below_drewN|apply below_drew1)|exact HB.out)) hb);clear HB;have HO210:=n0_;have HB:=n1_;clear n0_ n1_;clear hb ho5))
   go_loopg [4] k (fun kq v4 w'=>∃ (x3_1:List (S77)) (x4_1:Int),v4=.int .i64 x4_1∧Aside0 (laws_toAttrS.l0 kq l0 x3_1 x4_1=some r)∧Aside0 (kq≤k)∧Aside0 (Kd.R k77 77 w' w.heap.size (fun _=>True) v209 x3_1)∧Aside0 (Below w.heap.size w w'))
   case atStart=>exact ⟨(y208),(0),(by first|rfl|(simp;done)|(simp [*];done)),H',⟨Nat.le_refl _⟩,⟨by (with_reducible repeat (first|apply Kd.R_alloc|apply Kd.R_drewN|apply Kd.R_drew));exact HO210.out⟩,⟨by repeat (first|(with_reducible first|exact HB.out|apply below_alloc|apply pw_below_drewN|apply below_drew1)|exact HB.out)⟩⟩
   case round=>
    clear H'
    try clear c2
    try clear c2b0
    try clear c2b1
    try clear p2
    try clear c3
    try clear c3b0
    try clear c3b1
    obtain ⟨x3_1,x4_1,rfl,HA,HK1,HO_3,HB⟩:=hrel
    cases gk with
    |zero=>exact absurd HA.out (by simp [laws_toAttrS.l0])
    |succ k1=>
     have H:=HA.out
     clear HA
     simp only [laws_toAttrS.l0] at H
     by_cases c6:x4_1<(l0.length:Int)
     ·rw [if_pos c6] at H
      have c6b0:decide (x4_1<(l0.length:Int))=true:=decide_eq_true c6
      clear c6
      by_cases c7:0≤x4_1
      ·rw [if_pos c7] at H
       have c7b0:decide (0≤x4_1)=true:=decide_eq_true c7
       clear c7
       replace H:=Option.bind_eq_some_iff.mp H
       obtain ⟨⟨t212,t213⟩,A80,H⟩:=H
       replace H:(if x4_1<(x3_1.length:Int) then (laws_toAttrS.l0 k1 l0 (x3_1.set (x4_1:Int).toNat (⟨t212,t213⟩:S77)) (wrap64 (x4_1+1))) else (none))=some r:=H
       have A8:=Aside0.mk A80
       clear A80
       by_cases c9:x4_1<(x3_1.length:Int)
       ·rw [if_pos c9] at H
        have c9b0:decide (x4_1<(x3_1.length:Int))=true:=decide_eq_true c9
        clear c9
        obtain ⟨y214,hy214⟩:∃ y_:List (S77),y_=(x3_1.set (x4_1:Int).toNat (⟨t212,t213⟩:S77)):=⟨_,rfl⟩
        replace H:(laws_toAttrS.l0 k1 l0 y214 (wrap64 (x4_1+1)))=some r:=by first|(rw [hy214];with_reducible exact H)|(have H2_:=(Option.bind_some _ _).symm.trans H;rw [hy214];with_reducible exact H2_)|(have H2_:=(Option.bind_some _ _).symm.trans H;with_reducible exact H2_)|with_reducible exact H|(rw [hy214];exact H)|exact H
        have Ny214:=Aside0.mk hy214
        clear hy214
        have H':=Aside0.mk H
        clear H
        have p211:0≤(x4_1:Int):=of_decide_eq_true (by first|(with_reducible assumption)|assumption)
        have q211:x4_1<(l0.length:Int):=of_decide_eq_true (by first|(with_reducible assumption)|assumption)
        obtain ⟨ad211,e211,hx211_0,hx211_1⟩:=at_T91 HR0.out x4_1 p211 q211
        cases e211
        replace hx211_0:=(HB.out.cell (World.block_lt_of_cell? w _ hx211_0)).trans hx211_0
        replace hx211_1:=(HB.out.cell (World.block_lt_of_cell? w _ hx211_1)).trans hx211_1
        replace p211:=eq_true p211
        replace q211:=eq_true q211
        go_wp2_with (first|((with_reducible refine gate_callee (f:=48) rfl ?_);refine goesL_ (some 20) rfl rfl Tryz.func48 (by kernel_rfl) rfl #[.agg #[.string ((rd_T91 l0 x4_1).f0),.string ((rd_T91 l0 x4_1).f1)]] rfl (by (try simp only [List.map_toArray,List.map_cons,List.map_nil]);first|done|rfl|(simp only [List.length_drop,List.length_take];rfl)) ?_;(with_reducible refine (laws_toAttr.calls ((rd_T91 l0 x4_1).f0) ((rd_T91 l0 x4_1).f1) t212 t213 _ A8.out).mono ?_);rintro e w11 ⟨rfl,hb⟩;refine ⟨_,rfl,?_⟩;have n0_:=Aside0.mk (Kd.R_below (by (with_reducible repeat (first|apply Kd.R_alloc|apply Kd.R_drewN|apply Kd.R_drew));exact HO_3.out) hb);have n1_:=Aside0.mk (below_step (by repeat (first|(with_reducible first|exact HB.out|apply below_alloc|apply pw_below_drewN|apply below_drew1)|exact HB.out)) hb);clear HO_3;clear HB;have HO_3:=n0_;have HB:=n1_;clear n0_ n1_;(try clear hb);(try clear hb2);(try clear hk);(try clear hi);have p10:0≤(x4_1:Int):=of_decide_eq_true (by first|(with_reducible assumption)|assumption);have q10:(x4_1:Int)<((x3_1.length:Int):Int):=of_decide_eq_true (by first|(with_reducible assumption)|assumption);obtain ⟨go10,co10,eo10,gb10,gl10,cl10,HG10⟩:=Kd.R_form HO_3.out (by omega);(first|cases eo10|(injection eo10 with ea_ en_ ec_;(first|subst ea_|(injection ea_ with ea_;subst ea_));subst ec_;clear en_));have GB10:=Aside0.mk gb10;have GG10:=Aside0.mk HG10;clear gb10 gl10 HG10;obtain ⟨ce10,hcl10,hM10,hcc10,hfr10⟩:=Kd.R_elem HO_3.out z77 (x4_1:Int) p10 q10;obtain rfl:=k77_openM hM10;have hx10_0:w11.cell? ⟨go10,(x4_1:Int).toNat*2,none⟩=some (.string ((rd_T77 x3_1 x4_1).f0)):=hcc10 0 _ rfl;have hx10_1:w11.cell? ⟨go10,(x4_1:Int).toNat*2+1,none⟩=some (.string ((rd_T77 x3_1 x4_1).f1)):=hcc10 1 _ rfl;have hf10_0:w11.frozen? ⟨go10,(x4_1:Int).toNat*2,none⟩=false:=hfr10 0;have hf10_1:w11.frozen? ⟨go10,(x4_1:Int).toNat*2+1,none⟩=false:=hfr10 1;clear hcl10 hcc10 hfr10 hM10;replace p10:=eq_true p10;replace q10:=eq_true q10;have HX12:=Aside0.mk (show Kd.R k77 77 w11 w.heap.size (fun _=>True) (.slice (some ⟨go10,0,none⟩) x3_1.length co10) x3_1 from (by (with_reducible repeat (first|apply Kd.R_alloc|apply Kd.R_drewN|apply Kd.R_drew));exact HO_3.out));obtain ⟨ce12,hcl12,hM12,hcc12,hfr12⟩:=Kd.R_elem HX12.out z77 (x4_1:Int) (of_decide_eq_true (by first|(with_reducible assumption)|assumption)) (by have h_:(x4_1:Int)<((x3_1.length:Int):Int):=of_decide_eq_true (by first|(with_reducible assumption)|assumption);first|exact h_|(have e_:=(Kd.R_reads' HO_3.out).1;omega)|simpa using h_);obtain rfl:=k77_openM hM12;have HP12:=Kd.R_seg HX12.out (x4_1:Int) (of_decide_eq_true (by first|(with_reducible assumption)|assumption)) (by have h_:(x4_1:Int)<((x3_1.length:Int):Int):=of_decide_eq_true (by first|(with_reducible assumption)|assumption);first|exact h_|(have e_:=(Kd.R_reads' HO_3.out).1;omega)|simpa using h_) (seg:=[.string t212,.string t213]) (j:=0) hcl12 hcc12 (show 2≤2 from by decide) (x':=(⟨t212,t213⟩:S77)) (k77_mkM _ _ _ (⟨t212,t213⟩:S77)) (fun _ hk=>hk);have hx12_0:=hcc12 0 _ rfl;(try simp only [show (k77).sz=2 from rfl,Nat.mul_one,Nat.add_zero] at hx12_0);have hf12_0:=hfr12 0;(try simp only [show (k77).sz=2 from rfl,Nat.mul_one,Nat.add_zero] at hf12_0);have hx12_1:=hcc12 1 _ rfl;(try simp only [show (k77).sz=2 from rfl,Nat.mul_one,Nat.add_zero] at hx12_1);have hf12_1:=hfr12 1;(try simp only [show (k77).sz=2 from rfl,Nat.mul_one,Nat.add_zero] at hf12_1);clear hcl12 hcc12 hfr12 hM12)|((with_reducible refine gate_store (t:=77) (p:=21) rfl ?_);refine store_event (t:=77) (p:=21) (v:=?vo_w13) (w1:=((w11.setCell ⟨go10,(x4_1:Int).toNat*2,none⟩ (.string t212)).setCell ⟨go10,(x4_1:Int).toNat*2+1,none⟩ (.string t213))) ?hg ?ho ?hn ?hr ?_;(case ho=>rfl);(case hg=>rfl);(case hn=>rfl);(case hr=>first|(go_simp;done)|(go_simp;rfl));intro w13 hw;have hg:w11.grownBy w13 (some go10):=(by rw [hw];exact HP12.2);have hp_:Kd.R k77 77 w13 w.heap.size (fun _=>True) (.slice (some ⟨go10,0,none⟩) x3_1.length co10) y214:=(by rw [hw,Ny214.out];exact HP12.1);clear HP12;have n0_:=Aside0.mk (hp_);have n1_:=Aside0.mk ((by rw [hw];exact below_set (below_set (HB.out) GB10.out) GB10.out:Below w.heap.size w w13));clear HO_3;clear HB;have HO_3:=n0_;have HB:=n1_;clear n0_ n1_;clear hg hw hp_))
        go_roundg k1
        case measure=>have:=HK1.out;omega
        case rel=>exact ⟨(y214),(wrap64 (x4_1+1)),(by first|rfl|(simp;done)|(simp [*];done)),H',⟨by have:=HK1.out;omega⟩,⟨by (with_reducible repeat (first|apply Kd.R_alloc|apply Kd.R_drewN|apply Kd.R_drew));exact HO_3.out⟩,⟨by repeat (first|(with_reducible first|exact HB.out|apply below_alloc|apply pw_below_drewN|apply below_drew1)|exact HB.out)⟩⟩
       ·rw [if_neg c9] at H
        exact absurd H (by simp)
      ·rw [if_neg c7] at H
       exact absurd H (by simp)
     ·rw [if_neg c6] at H
      have c6b0:decide (x4_1<(l0.length:Int))=false:=decide_eq_false c6
      clear c6
      obtain rfl:=Option.some.inj H
      go_wp2
      go_ret
      exact ⟨_,by first|rfl|(simp [errW_none,errW_some]<;>rfl)|(simp [*,errW_none,errW_some]<;>rfl),by (with_reducible repeat (first|apply Kd.R_alloc|apply Kd.R_drewN|apply Kd.R_drew));exact HO_3.out,by repeat (first|(with_reducible first|exact HB.out|apply below_alloc|apply pw_below_drewN|apply below_drew1)|exact HB.out)⟩
  ·rw [if_neg c3] at H
   exact absurd H (by simp)
 ·rw [if_neg c2] at H
  exact absurd H (by simp)
/-! ### laws_toNode: function 26 -/
def laws_toNode.f (k:Nat) (a0_0:Int) (a0_1:Int) (a0_2:ByteArray) (l0_3:List (S91)) (a0_4:ByteArray) (a0_5:Int):Option (Int×Int×ByteArray×(List (S77))×ByteArray×Int):=(laws_toAttrS.f k l0_3).bind fun t218=>(some (a0_0,a0_1,a0_2,t218,a0_4,a0_5))
theorem laws_toNode.mono:∀ a0 a1 a2 a3 a4 a5 k,LeO (laws_toNode.f k a0 a1 a2 a3 a4 a5) (laws_toNode.f (k+1) a0 a1 a2 a3 a4 a5):=by
 intro a0 a1 a2 a3 a4 a5 k
 unfold laws_toNode.f
 repeat' first
   |(with_reducible exact laws_toAttrS.mono _ _)
   |(with_reducible exact LeO.refl _)
   |(with_reducible exact LeO.none _)
   |(with_reducible refine LeO.ite ?_ ?_)
   |(with_reducible refine LeO.bind ?_ (fun _=>?_))
   |exact laws_toAttrS.mono _ _
   |exact LeO.none _
   |refine LeO.ite ?_ ?_
   |refine LeO.bind ?_ (fun _=>?_)
set_option maxHeartbeats 8000000 in
set_option maxRecDepth 100000 in
theorem laws_toNode.calls (k:Nat) (a0_0:Int) (a0_1:Int) (a0_2:ByteArray) (A0_3:Option Addr) (c0_3:Nat) (l0_3:List (S91)) (a0_4:ByteArray) (a0_5:Int) (r1:Int) (r2:Int) (r3:ByteArray) (r4:List (S77)) (r5:ByteArray) (r6:Int) (w:World) (hr0_3:Kd.C k91 w A0_3 l0_3.length l0_3) (hc0_3:l0_3.length≤c0_3) (h:laws_toNode.f k a0_0 a0_1 a0_2 l0_3 a0_4 a0_5=some (r1,r2,r3,r4,r5,r6)) :
  Calls Tryz.prog 26 #[.agg #[.int .i64 a0_0,.int .i64 a0_1,.string a0_2,.slice A0_3 l0_3.length c0_3,.string a0_4,.int .i64 a0_5]] w fun e w'=>∃ v3_:Value,e=.returned (.agg #[.int .i64 r1,.int .i64 r2,.string r3,v3_,.string r5,.int .i64 r6])∧Kd.R k77 77 w' w.heap.size (fun _=>True) v3_ r4∧Below w.heap.size w w':=by
 have hu63:=Tryz.underlying63
 have hu57:=Tryz.underlying57
 have HR0_3:=Aside0.mk hr0_3
 have HC0_3:=Aside0.mk hc0_3
 clear hr0_3 hc0_3
 have HB:=Aside0.mk (Below.refl w.heap.size w)
 have H:((laws_toAttrS.f k l0_3).bind fun t218=>(some (a0_0,a0_1,a0_2,t218,a0_4,a0_5)))=some (r1,r2,r3,r4,r5,r6):=h
 clear h
 replace H:=Option.bind_eq_some_iff.mp H
 obtain ⟨t218,A20,H⟩:=H
 replace H:(some (a0_0,a0_1,a0_2,t218,a0_4,a0_5))=some (r1,r2,r3,r4,r5,r6):=H
 have A2:=Aside0.mk A20
 clear A20
 simp only [Option.some.injEq,Prod.mk.injEq] at H
 obtain ⟨rfl,rfl,rfl,rfl,rfl,rfl⟩:=H
 go_enter Tryz.func26,Tryz.ntmps26
 go_wp2_with (first|((with_reducible refine gate_dst (N:=1) rfl ?_);refine box_event ?hg (N:=1) ?hd (cs:=#[.int .i64 a0_0,.int .i64 a0_1,.string a0_2,.slice A0_3 l0_3.length c0_3,.string a0_4,.int .i64 a0_5]) (t:=63) ?hr ?_;(case hd=>rfl);(case hg=>rfl);(case hr=>first|(go_simp;done)|(go_simp;rfl));intro gb215 hg w3 hbox hb;have n0_:=Aside0.mk (below_step (by repeat (first|(with_reducible first|exact HB.out|apply below_alloc|apply pw_below_drewN|apply below_drew1)|exact HB.out)) hb);have n1_:=Aside0.mk (hbox);have n2_:=Aside0.mk ((by rw [hg];exact (below_size (by repeat (first|(with_reducible first|exact HB.out|apply below_alloc|apply pw_below_drewN|apply below_drew1)|exact HB.out))):w.heap.size≤gb215));have n3_:=Aside0.mk ((by rw [hg];exact (below_size (by repeat (first|(with_reducible first|exact HB.out|apply below_alloc|apply pw_below_drewN|apply below_drew1)|exact HB.out))):w.heap.size≤gb215));clear HB;have HB:=n0_;have BK215:=n1_;have GW215:=n2_;have GE215:=n3_;clear n0_ n1_ n2_ n3_;clear hb hbox hg)|((with_reducible refine gate_dst (N:=2) rfl ?_);refine box_event ?hg (N:=2) ?hd (cs:=#[.int .i64 0,.int .i64 0,.string (⟨#[]⟩:ByteArray),.slice none 0 0,.string (⟨#[]⟩:ByteArray),.int .i64 0]) (t:=57) ?hr ?_;(case hd=>rfl);(case hg=>rfl);(case hr=>first|(go_simp;done)|(go_simp;rfl));intro gb216 hg w4 hbox hb;have n0_:=Aside0.mk (blk_below (g:=gb215) (o:=.cells #[.int .i64 a0_0,.int .i64 a0_1,.string a0_2,.slice A0_3 l0_3.length c0_3,.string a0_4,.int .i64 a0_5] 63 (0,0)) (by (with_reducible repeat (first|refine blk_drewN ?_ _|refine blk_drew ?_|refine blk_alloc ?_ _));exact BK215.out) hb);have n1_:=Aside0.mk (below_step (by repeat (first|(with_reducible first|exact HB.out|apply below_alloc|apply pw_below_drewN|apply below_drew1|refine below_set ?_ GE215.out)|exact HB.out)) hb);have n2_:=Aside0.mk (hbox);have n3_:=Aside0.mk ((by rw [hg];exact (below_size (by repeat (first|(with_reducible first|exact HB.out|apply below_alloc|apply pw_below_drewN|apply below_drew1|refine below_set ?_ GE215.out)|exact HB.out))):w.heap.size≤gb216));have n4_:=Aside0.mk ((by rw [hg];exact (below_size (by repeat (first|(with_reducible first|exact HB.out|apply below_alloc|apply pw_below_drewN|apply below_drew1|refine below_set ?_ GE215.out)|exact HB.out))):w.heap.size≤gb216));have n5_:=Aside0.mk ((by rw [hg];exact Nat.ne_of_lt (blk_lt (g:=gb215) (o:=.cells #[.int .i64 a0_0,.int .i64 a0_1,.string a0_2,.slice A0_3 l0_3.length c0_3,.string a0_4,.int .i64 a0_5] 63 (0,0)) (by (with_reducible repeat (first|refine blk_drewN ?_ _|refine blk_drew ?_|refine blk_alloc ?_ _));exact BK215.out)):gb215≠gb216));have n6_:=Aside0.mk ((by rw [hg];exact Nat.ne_of_gt (blk_lt (g:=gb215) (o:=.cells #[.int .i64 a0_0,.int .i64 a0_1,.string a0_2,.slice A0_3 l0_3.length c0_3,.string a0_4,.int .i64 a0_5] 63 (0,0)) (by (with_reducible repeat (first|refine blk_drewN ?_ _|refine blk_drew ?_|refine blk_alloc ?_ _));exact BK215.out)):gb216≠gb215));clear BK215;clear HB;have BK215:=n0_;have HB:=n1_;have BK216:=n2_;have GW216:=n3_;have GE216:=n4_;have NB215_216:=n5_;have NB216_215:=n6_;clear n0_ n1_ n2_ n3_ n4_ n5_ n6_;clear hb hbox hg)|((with_reducible refine gate_dst (N:=3) rfl ?_);refine box_event ?hg (N:=3) ?hd (cs:=#[.int .i64 0,.int .i64 0,.string (⟨#[]⟩:ByteArray),.slice none 0 0,.string (⟨#[]⟩:ByteArray),.int .i64 0]) (t:=57) ?hr ?_;(case hd=>rfl);(case hg=>rfl);(case hr=>first|(go_simp;done)|(go_simp;rfl));intro gb217 hg w5 hbox hb;have n0_:=Aside0.mk (blk_below (g:=gb215) (o:=.cells #[.int .i64 a0_0,.int .i64 a0_1,.string a0_2,.slice A0_3 l0_3.length c0_3,.string a0_4,.int .i64 a0_5] 63 (0,0)) (by (with_reducible repeat (first|refine blk_drewN ?_ _|refine blk_drew ?_|refine blk_alloc ?_ _));exact BK215.out) hb);have n1_:=Aside0.mk (blk_below (g:=gb216) (o:=.cells #[.int .i64 0,.int .i64 0,.string (⟨#[]⟩:ByteArray),.slice none 0 0,.string (⟨#[]⟩:ByteArray),.int .i64 0] 57 (0,0)) (by (with_reducible repeat (first|refine blk_drewN ?_ _|refine blk_drew ?_|refine blk_alloc ?_ _));exact BK216.out) hb);have n2_:=Aside0.mk (below_step (by repeat (first|(with_reducible first|exact HB.out|apply below_alloc|apply pw_below_drewN|apply below_drew1|refine below_set ?_ GE215.out|refine below_set ?_ GE216.out)|exact HB.out)) hb);have n3_:=Aside0.mk (hbox);have n4_:=Aside0.mk ((by rw [hg];exact (below_size (by repeat (first|(with_reducible first|exact HB.out|apply below_alloc|apply pw_below_drewN|apply below_drew1|refine below_set ?_ GE215.out|refine below_set ?_ GE216.out)|exact HB.out))):w.heap.size≤gb217));have n5_:=Aside0.mk ((by rw [hg];exact (below_size (by repeat (first|(with_reducible first|exact HB.out|apply below_alloc|apply pw_below_drewN|apply below_drew1|refine below_set ?_ GE215.out|refine below_set ?_ GE216.out)|exact HB.out))):w.heap.size≤gb217));have n6_:=Aside0.mk ((by rw [hg];exact Nat.ne_of_lt (blk_lt (g:=gb215) (o:=.cells #[.int .i64 a0_0,.int .i64 a0_1,.string a0_2,.slice A0_3 l0_3.length c0_3,.string a0_4,.int .i64 a0_5] 63 (0,0)) (by (with_reducible repeat (first|refine blk_drewN ?_ _|refine blk_drew ?_|refine blk_alloc ?_ _));exact BK215.out)):gb215≠gb217));have n7_:=Aside0.mk ((by rw [hg];exact Nat.ne_of_gt (blk_lt (g:=gb215) (o:=.cells #[.int .i64 a0_0,.int .i64 a0_1,.string a0_2,.slice A0_3 l0_3.length c0_3,.string a0_4,.int .i64 a0_5] 63 (0,0)) (by (with_reducible repeat (first|refine blk_drewN ?_ _|refine blk_drew ?_|refine blk_alloc ?_ _));exact BK215.out)):gb217≠gb215));have n8_:=Aside0.mk ((by rw [hg];exact Nat.ne_of_lt (blk_lt (g:=gb216) (o:=.cells #[.int .i64 0,.int .i64 0,.string (⟨#[]⟩:ByteArray),.slice none 0 0,.string (⟨#[]⟩:ByteArray),.int .i64 0] 57 (0,0)) (by (with_reducible repeat (first|refine blk_drewN ?_ _|refine blk_drew ?_|refine blk_alloc ?_ _));exact BK216.out)):gb216≠gb217));have n9_:=Aside0.mk ((by rw [hg];exact Nat.ne_of_gt (blk_lt (g:=gb216) (o:=.cells #[.int .i64 0,.int .i64 0,.string (⟨#[]⟩:ByteArray),.slice none 0 0,.string (⟨#[]⟩:ByteArray),.int .i64 0] 57 (0,0)) (by (with_reducible repeat (first|refine blk_drewN ?_ _|refine blk_drew ?_|refine blk_alloc ?_ _));exact BK216.out)):gb217≠gb216));clear BK215;clear BK216;clear HB;have BK215:=n0_;have BK216:=n1_;have HB:=n2_;have BK217:=n3_;have GW217:=n4_;have GE217:=n5_;have NB215_217:=n6_;have NB217_215:=n7_;have NB216_217:=n8_;have NB217_216:=n9_;clear n0_ n1_ n2_ n3_ n4_ n5_ n6_ n7_ n8_ n9_;clear hb hbox hg;have hnb6:=NB215_216.out;have hnc6:=NB216_215.out;have hnb7:=NB215_217.out;have hnc7:=NB217_215.out;have hcz8_0:w5.cell? ⟨gb215,0,none⟩=some (.int .i64 a0_0):=(blk_cell BK215.out 0).trans rfl;have hcz8_1:w5.cell? ⟨gb215,1,none⟩=some (.int .i64 a0_1):=(blk_cell BK215.out 1).trans rfl;have hcz8_2:w5.cell? ⟨gb215,2,none⟩=some (.string a0_2):=(blk_cell BK215.out 2).trans rfl;have hcz8_3:w5.cell? ⟨gb215,3,none⟩=some (.slice A0_3 l0_3.length c0_3):=(blk_cell BK215.out 3).trans rfl;have hcz8_4:w5.cell? ⟨gb215,4,none⟩=some (.string a0_4):=(blk_cell BK215.out 4).trans rfl;have hcz8_5:w5.cell? ⟨gb215,5,none⟩=some (.int .i64 a0_5):=(blk_cell BK215.out 5).trans rfl;have hfz8_0:=blk_frozen BK215.out 0;have hfz8_1:=blk_frozen BK215.out 1;have hfz8_2:=blk_frozen BK215.out 2;have hfz8_3:=blk_frozen BK215.out 3;have hfz8_4:=blk_frozen BK215.out 4;have hfz8_5:=blk_frozen BK215.out 5;have hnb9:=NB217_216.out;have hnc9:=NB216_217.out;have hcz10_0:w5.cell? ⟨gb217,0,none⟩=some (.int .i64 0):=(blk_cell BK217.out 0).trans rfl;have hcz10_1:w5.cell? ⟨gb217,1,none⟩=some (.int .i64 0):=(blk_cell BK217.out 1).trans rfl;have hcz10_2:w5.cell? ⟨gb217,2,none⟩=some (.string (⟨#[]⟩:ByteArray)):=(blk_cell BK217.out 2).trans rfl;have hcz10_3:w5.cell? ⟨gb217,3,none⟩=some (.slice none 0 0):=(blk_cell BK217.out 3).trans rfl;have hcz10_4:w5.cell? ⟨gb217,4,none⟩=some (.string (⟨#[]⟩:ByteArray)):=(blk_cell BK217.out 4).trans rfl;have hcz10_5:w5.cell? ⟨gb217,5,none⟩=some (.int .i64 0):=(blk_cell BK217.out 5).trans rfl;have hfz10_0:=blk_frozen BK217.out 0;have hfz10_1:=blk_frozen BK217.out 1;have hfz10_2:=blk_frozen BK217.out 2;have hfz10_3:=blk_frozen BK217.out 3;have hfz10_4:=blk_frozen BK217.out 4;have hfz10_5:=blk_frozen BK217.out 5)|((with_reducible refine gate_callee (f:=37) rfl ?_);refine goesL_ (some 15) rfl rfl Tryz.func37 (by kernel_rfl) rfl #[.slice A0_3 l0_3.length c0_3] rfl (by (try simp only [List.map_toArray,List.map_cons,List.map_nil]);first|done|rfl|(simp only [List.length_drop,List.length_take];rfl)) ?_;(with_reducible refine (laws_toAttrS.calls k _ _ l0_3 t218 _ ?side1 ?side2 A2.out).mono ?_);(case side1=>exact Kd.C_below HR0_3.out (by repeat (first|(with_reducible first|exact HB.out|apply below_alloc|apply pw_below_drewN|apply below_drew1|refine below_set ?_ GE215.out|refine below_set ?_ GE216.out|refine below_set ?_ GE217.out)|exact HB.out)));(case side2=>exact HC0_3.out);rintro e w11 ⟨v219,rfl,ho0,hb⟩;refine ⟨_,rfl,?_⟩;have n0_:=Aside0.mk (Kd.R_lower ho0 (below_size (by repeat (first|(with_reducible first|exact HB.out|apply below_alloc|apply pw_below_drewN|apply below_drew1|refine below_set ?_ GE215.out|refine below_set ?_ GE216.out|refine below_set ?_ GE217.out)|exact HB.out))));have n1_:=Aside0.mk (blk_below (g:=gb215) (o:=.cells #[.int .i64 a0_0,.int .i64 a0_1,.string a0_2,.slice A0_3 l0_3.length c0_3,.string a0_4,.int .i64 a0_5] 63 (0,0)) (by (with_reducible repeat (first|refine blk_drewN ?_ _|refine blk_drew ?_|refine blk_alloc ?_ _));refine blk_far ?_ NB215_217.out _;(with_reducible repeat (first|refine blk_drewN ?_ _|refine blk_drew ?_|refine blk_alloc ?_ _));refine blk_far ?_ NB215_217.out _;(with_reducible repeat (first|refine blk_drewN ?_ _|refine blk_drew ?_|refine blk_alloc ?_ _));refine blk_far ?_ NB215_217.out _;(with_reducible repeat (first|refine blk_drewN ?_ _|refine blk_drew ?_|refine blk_alloc ?_ _));exact BK215.out) hb);have n2_:=Aside0.mk (blk_below (g:=gb216) (o:=.cells #[.int .i64 0,.int .i64 0,.string (⟨#[]⟩:ByteArray),.slice none 0 0,.string (⟨#[]⟩:ByteArray),.int .i64 0] 57 (0,0)) (by (with_reducible repeat (first|refine blk_drewN ?_ _|refine blk_drew ?_|refine blk_alloc ?_ _));refine blk_far ?_ NB216_217.out _;(with_reducible repeat (first|refine blk_drewN ?_ _|refine blk_drew ?_|refine blk_alloc ?_ _));refine blk_far ?_ NB216_217.out _;(with_reducible repeat (first|refine blk_drewN ?_ _|refine blk_drew ?_|refine blk_alloc ?_ _));refine blk_far ?_ NB216_217.out _;(with_reducible repeat (first|refine blk_drewN ?_ _|refine blk_drew ?_|refine blk_alloc ?_ _));exact BK216.out) hb);have n3_:=Aside0.mk (blk_below (g:=gb217) (o:=.cells #[.int .i64 a0_0,.int .i64 a0_1,.string a0_2,.slice none 0 0,.string (⟨#[]⟩:ByteArray),.int .i64 0] 57 (0,0)) (by (with_reducible repeat (first|refine blk_drewN ?_ _|refine blk_drew ?_|refine blk_alloc ?_ _));refine blk_put (cs:=#[.int .i64 a0_0,.int .i64 a0_1,.string (⟨#[]⟩:ByteArray),.slice none 0 0,.string (⟨#[]⟩:ByteArray),.int .i64 0]) ?_ 2 _ rfl;(with_reducible repeat (first|refine blk_drewN ?_ _|refine blk_drew ?_|refine blk_alloc ?_ _));refine blk_put (cs:=#[.int .i64 a0_0,.int .i64 0,.string (⟨#[]⟩:ByteArray),.slice none 0 0,.string (⟨#[]⟩:ByteArray),.int .i64 0]) ?_ 1 _ rfl;(with_reducible repeat (first|refine blk_drewN ?_ _|refine blk_drew ?_|refine blk_alloc ?_ _));refine blk_put (cs:=#[.int .i64 0,.int .i64 0,.string (⟨#[]⟩:ByteArray),.slice none 0 0,.string (⟨#[]⟩:ByteArray),.int .i64 0]) ?_ 0 _ rfl;(with_reducible repeat (first|refine blk_drewN ?_ _|refine blk_drew ?_|refine blk_alloc ?_ _));exact BK217.out) hb);have n4_:=Aside0.mk (below_step (by repeat (first|(with_reducible first|exact HB.out|apply below_alloc|apply pw_below_drewN|apply below_drew1|refine below_set ?_ GE215.out|refine below_set ?_ GE216.out|refine below_set ?_ GE217.out)|exact HB.out)) hb);clear BK215;clear BK216;clear BK217;clear HB;have HO220:=n0_;have BK215:=n1_;have BK216:=n2_;have BK217:=n3_;have HB:=n4_;clear n0_ n1_ n2_ n3_ n4_;(try clear hb);(try clear hb2);(try clear hk);(try clear hi);(try clear ho0);obtain ⟨Ao12,co12,eo12⟩:=Kd.R_slice HO220.out;subst eo12;have hcz13_0:w11.cell? ⟨gb217,0,none⟩=some (.int .i64 a0_0):=(blk_cell BK217.out 0).trans rfl;have hcz13_1:w11.cell? ⟨gb217,1,none⟩=some (.int .i64 a0_1):=(blk_cell BK217.out 1).trans rfl;have hcz13_2:w11.cell? ⟨gb217,2,none⟩=some (.string a0_2):=(blk_cell BK217.out 2).trans rfl;have hcz13_3:w11.cell? ⟨gb217,3,none⟩=some (.slice none 0 0):=(blk_cell BK217.out 3).trans rfl;have hcz13_4:w11.cell? ⟨gb217,4,none⟩=some (.string (⟨#[]⟩:ByteArray)):=(blk_cell BK217.out 4).trans rfl;have hcz13_5:w11.cell? ⟨gb217,5,none⟩=some (.int .i64 0):=(blk_cell BK217.out 5).trans rfl;have hfz13_0:=blk_frozen BK217.out 0;have hfz13_1:=blk_frozen BK217.out 1;have hfz13_2:=blk_frozen BK217.out 2;have hfz13_3:=blk_frozen BK217.out 3;have hfz13_4:=blk_frozen BK217.out 4;have hfz13_5:=blk_frozen BK217.out 5;have hcz14_0:w11.cell? ⟨gb215,0,none⟩=some (.int .i64 a0_0):=(blk_cell BK215.out 0).trans rfl;have hcz14_1:w11.cell? ⟨gb215,1,none⟩=some (.int .i64 a0_1):=(blk_cell BK215.out 1).trans rfl;have hcz14_2:w11.cell? ⟨gb215,2,none⟩=some (.string a0_2):=(blk_cell BK215.out 2).trans rfl;have hcz14_3:w11.cell? ⟨gb215,3,none⟩=some (.slice A0_3 l0_3.length c0_3):=(blk_cell BK215.out 3).trans rfl;have hcz14_4:w11.cell? ⟨gb215,4,none⟩=some (.string a0_4):=(blk_cell BK215.out 4).trans rfl;have hcz14_5:w11.cell? ⟨gb215,5,none⟩=some (.int .i64 a0_5):=(blk_cell BK215.out 5).trans rfl;have hfz14_0:=blk_frozen BK215.out 0;have hfz14_1:=blk_frozen BK215.out 1;have hfz14_2:=blk_frozen BK215.out 2;have hfz14_3:=blk_frozen BK215.out 3;have hfz14_4:=blk_frozen BK215.out 4;have hfz14_5:=blk_frozen BK215.out 5;have hcz15_0:w11.cell? ⟨gb216,0,none⟩=some (.int .i64 0):=(blk_cell BK216.out 0).trans rfl;have hcz15_1:w11.cell? ⟨gb216,1,none⟩=some (.int .i64 0):=(blk_cell BK216.out 1).trans rfl;have hcz15_2:w11.cell? ⟨gb216,2,none⟩=some (.string (⟨#[]⟩:ByteArray)):=(blk_cell BK216.out 2).trans rfl;have hcz15_3:w11.cell? ⟨gb216,3,none⟩=some (.slice none 0 0):=(blk_cell BK216.out 3).trans rfl;have hcz15_4:w11.cell? ⟨gb216,4,none⟩=some (.string (⟨#[]⟩:ByteArray)):=(blk_cell BK216.out 4).trans rfl;have hcz15_5:w11.cell? ⟨gb216,5,none⟩=some (.int .i64 0):=(blk_cell BK216.out 5).trans rfl;have hfz15_0:=blk_frozen BK216.out 0;have hfz15_1:=blk_frozen BK216.out 1;have hfz15_2:=blk_frozen BK216.out 2;have hfz15_3:=blk_frozen BK216.out 3;have hfz15_4:=blk_frozen BK216.out 4;have hfz15_5:=blk_frozen BK216.out 5))
 refine bodyPost_ret (results_cell_row rfl _ _ gb216 57 #[.int .i64 a0_0,.int .i64 a0_1,.string a0_2,.slice Ao12 t218.length co12,.string a0_4,.int .i64 a0_5] (0,0) _ rfl (by (with_reducible repeat (first|refine blk_drewN ?_ _|refine blk_drew ?_|refine blk_alloc ?_ _));refine blk_put (cs:=#[.int .i64 a0_0,.int .i64 a0_1,.string a0_2,.slice Ao12 t218.length co12,.string a0_4,.int .i64 0]) ?_ 5 _ rfl;(with_reducible repeat (first|refine blk_drewN ?_ _|refine blk_drew ?_|refine blk_alloc ?_ _));refine blk_put (cs:=#[.int .i64 a0_0,.int .i64 a0_1,.string a0_2,.slice Ao12 t218.length co12,.string (⟨#[]⟩:ByteArray),.int .i64 0]) ?_ 4 _ rfl;(with_reducible repeat (first|refine blk_drewN ?_ _|refine blk_drew ?_|refine blk_alloc ?_ _));refine blk_put (cs:=#[.int .i64 a0_0,.int .i64 a0_1,.string a0_2,.slice none 0 0,.string (⟨#[]⟩:ByteArray),.int .i64 0]) ?_ 3 _ rfl;(with_reducible repeat (first|refine blk_drewN ?_ _|refine blk_drew ?_|refine blk_alloc ?_ _));refine blk_put (cs:=#[.int .i64 a0_0,.int .i64 a0_1,.string (⟨#[]⟩:ByteArray),.slice none 0 0,.string (⟨#[]⟩:ByteArray),.int .i64 0]) ?_ 2 _ rfl;(with_reducible repeat (first|refine blk_drewN ?_ _|refine blk_drew ?_|refine blk_alloc ?_ _));refine blk_put (cs:=#[.int .i64 a0_0,.int .i64 0,.string (⟨#[]⟩:ByteArray),.slice none 0 0,.string (⟨#[]⟩:ByteArray),.int .i64 0]) ?_ 1 _ rfl;(with_reducible repeat (first|refine blk_drewN ?_ _|refine blk_drew ?_|refine blk_alloc ?_ _));refine blk_put (cs:=#[.int .i64 0,.int .i64 0,.string (⟨#[]⟩:ByteArray),.slice none 0 0,.string (⟨#[]⟩:ByteArray),.int .i64 0]) ?_ 0 _ rfl;(with_reducible repeat (first|refine blk_drewN ?_ _|refine blk_drew ?_|refine blk_alloc ?_ _));refine blk_far ?_ NB216_217.out _;(with_reducible repeat (first|refine blk_drewN ?_ _|refine blk_drew ?_|refine blk_alloc ?_ _));refine blk_far ?_ NB216_217.out _;(with_reducible repeat (first|refine blk_drewN ?_ _|refine blk_drew ?_|refine blk_alloc ?_ _));refine blk_far ?_ NB216_217.out _;(with_reducible repeat (first|refine blk_drewN ?_ _|refine blk_drew ?_|refine blk_alloc ?_ _));exact BK216.out) Tryz.underlying57 rfl (by kernel_rfl)) rfl ?_
 exact ⟨_,by first|rfl|(simp [errW_none,errW_some]<;>rfl)|(simp [*,errW_none,errW_some]<;>rfl),by (with_reducible repeat (first|apply Kd.R_alloc|apply Kd.R_drewN|apply Kd.R_drew));exact Kd.R_mono (Kd.R_far (p:=⟨gb216,5,none⟩) (Kd.R_far (p:=⟨gb216,4,none⟩) (Kd.R_far (p:=⟨gb216,3,none⟩) (Kd.R_far (p:=⟨gb216,2,none⟩) (Kd.R_far (p:=⟨gb216,1,none⟩) (Kd.R_far (p:=⟨gb216,0,none⟩) (Kd.R_far (p:=⟨gb217,5,none⟩) (Kd.R_far (p:=⟨gb217,4,none⟩) (Kd.R_far (p:=⟨gb217,3,none⟩) (Kd.R_types (Kd.R_types HO220.out BK217.out (by decide)) BK216.out (by decide)) (fun _ hk=>hk.1.2) (.slice Ao12 t218.length co12)) (fun _ hk=>hk.1.2) (.string a0_4)) (fun _ hk=>hk.1.2) (.int .i64 a0_5)) (fun _ hk=>hk.2) (.int .i64 a0_0)) (fun _ hk=>hk.2) (.int .i64 a0_1)) (fun _ hk=>hk.2) (.string a0_2)) (fun _ hk=>hk.2) (.slice Ao12 t218.length co12)) (fun _ hk=>hk.2) (.string a0_4)) (fun _ hk=>hk.2) (.int .i64 a0_5)) (fun _ hk=>trivial),by repeat (first|(with_reducible first|exact HB.out|apply below_alloc|apply pw_below_drewN|apply below_drew1|refine below_set ?_ GE215.out|refine below_set ?_ GE216.out|refine below_set ?_ GE217.out)|exact HB.out)⟩
/-! ### laws_toNodeS: function 15 -/
def laws_toNodeS.l0:Nat→List (S63)→List (S57)→Int→Option ((List (S57)))
 |0,_,_,_=>none
 |k+1,x0,x3,x4=>if x4<(x0.length:Int) then (if 0≤x4 then ((laws_toNode.f k ((rd_T63 x0 x4).f0) ((rd_T63 x0 x4).f1) ((rd_T63 x0 x4).f2) ((rd_T63 x0 x4).f3) ((rd_T63 x0 x4).f4) ((rd_T63 x0 x4).f5)).bind fun bt225=>(if x4<(x3.length:Int) then (laws_toNodeS.l0 k x0 (x3.set (x4:Int).toNat (⟨bt225.1,bt225.2.1,bt225.2.2.1,bt225.2.2.2.1,bt225.2.2.2.2.1,bt225.2.2.2.2.2⟩:S57)) (wrap64 (x4+1))) else (none))) else (none)) else (some x3)
def laws_toNodeS.f (k:Nat) (l0:List (S63)):Option ((List (S57))):=if 0≤(l0.length:Int) then (if ((l0.length:Int):Int).toNat≤3518437208883 then (laws_toNodeS.l0 k l0 (List.replicate ((l0.length:Int):Int).toNat z57) 0) else (none)) else (none)
theorem laws_toNodeS.mono_l:∀ k,(∀ y0 y1 y2,LeO (laws_toNodeS.l0 k y0 y1 y2) (laws_toNodeS.l0 (k+1) y0 y1 y2))
 |0=>fun _ _ _ r h=>by simp [laws_toNodeS.l0] at h
 |k+1=>by
  have ih0:=laws_toNodeS.mono_l k
  ·intro y0 y1 y2
   unfold laws_toNodeS.l0
   repeat' first
   |(with_reducible exact ih0 _ _ _)
   |(with_reducible exact laws_toNode.mono _ _ _ _ _ _ _)
   |(with_reducible exact LeO.refl _)
   |(with_reducible exact LeO.none _)
   |(with_reducible refine LeO.ite ?_ ?_)
   |(with_reducible refine LeO.bind ?_ (fun _=>?_))
   |exact ih0 _ _ _
   |exact laws_toNode.mono _ _ _ _ _ _ _
   |exact LeO.none _
   |refine LeO.ite ?_ ?_
   |refine LeO.bind ?_ (fun _=>?_)
theorem laws_toNodeS.mono:∀ a0 k,LeO (laws_toNodeS.f k a0) (laws_toNodeS.f (k+1) a0):=by
 intro a0 k
 have ih0:=laws_toNodeS.mono_l k
 unfold laws_toNodeS.f
 repeat' first
   |(with_reducible exact ih0 _ _ _)
   |(with_reducible exact laws_toNode.mono _ _ _ _ _ _ _)
   |(with_reducible exact LeO.refl _)
   |(with_reducible exact LeO.none _)
   |(with_reducible refine LeO.ite ?_ ?_)
   |(with_reducible refine LeO.bind ?_ (fun _=>?_))
   |exact ih0 _ _ _
   |exact laws_toNode.mono _ _ _ _ _ _ _
   |exact LeO.none _
   |refine LeO.ite ?_ ?_
   |refine LeO.bind ?_ (fun _=>?_)
set_option maxHeartbeats 8000000 in
set_option maxRecDepth 100000 in
theorem laws_toNodeS.calls (k:Nat) (A0:Option Addr) (c0:Nat) (l0:List (S63)) (r:List (S57)) (w:World) (hr0:Kd.C k63 w A0 l0.length l0) (hc0:l0.length≤c0) (h:laws_toNodeS.f k l0=some r) :
  Calls Tryz.prog 15 #[.slice A0 l0.length c0] w fun e w'=>∃ v0_:Value,e=.returned (v0_)∧Kd.S k57 57 w' w.heap.size (fun _=>True) v0_ r∧Below w.heap.size w w':=by
 have hu63:=Tryz.underlying63
 have hu57:=Tryz.underlying57
 have HR0:=Aside0.mk hr0
 have HC0:=Aside0.mk hc0
 clear hr0 hc0
 have HB:=Aside0.mk (Below.refl w.heap.size w)
 have H:(if 0≤(l0.length:Int) then (if ((l0.length:Int):Int).toNat≤3518437208883 then (laws_toNodeS.l0 k l0 (List.replicate ((l0.length:Int):Int).toNat z57) 0) else (none)) else (none))=some r:=h
 clear h
 by_cases c2:0≤(l0.length:Int)
 ·rw [if_pos c2] at H
  have c2b0:=eq_true c2
  have c2b1:decide (0≤(l0.length:Int))=true:=decide_eq_true c2
  clear c2
  by_cases c3:((l0.length:Int):Int).toNat≤3518437208883
  ·rw [if_pos c3] at H
   have c3b0:=eq_true c3
   have c3b1:decide (((l0.length:Int):Int).toNat≤3518437208883)=true:=decide_eq_true c3
   clear c3
   obtain ⟨y221,hy221⟩:∃ y_:List (S57),y_=(List.replicate ((l0.length:Int):Int).toNat z57):=⟨_,rfl⟩
   replace H:(laws_toNodeS.l0 k l0 y221 0)=some r:=by first|(rw [hy221];with_reducible exact H)|(have H2_:=(Option.bind_some _ _).symm.trans H;rw [hy221];with_reducible exact H2_)|(have H2_:=(Option.bind_some _ _).symm.trans H;with_reducible exact H2_)|with_reducible exact H|(rw [hy221];exact H)|exact H
   have Ny221:=Aside0.mk hy221
   clear hy221
   have H':=Aside0.mk H
   clear H
   go_enter Tryz.func15,Tryz.ntmps15
   go_wp2_with (first|((with_reducible refine gate_dst (N:=7) rfl ?_);refine Kd.S_make k57 _ 57 rfl (N:=7) rfl 27 _ _ rfl (l0.length:Int) rfl rfl Tryz.underlying27 (.agg #[(.int .i64 0),(.int .i64 0),(.string ⟨#[]⟩),(.slice none 0 0),(.string ⟨#[]⟩),(.int .i64 0)]) 80 info57 rfl (by decide) (by omega) z57 (ok:=fun _=>True) (okp:=fun _=>True) (k57_mkM _ _ _ z57 (Kd.R_nil _ _ _ _ _)) (fun _ hk=>hk) trivial (of_decide_eq_true (by first|(with_reducible assumption)|assumption)) (Nat.le_trans (Nat.mul_le_mul_right _ (of_decide_eq_true (by first|(with_reducible assumption)|assumption):(l0.length:Int).toNat≤3518437208883)) (by omega)) (Below.refl _ _) (Nat.le_refl _) ?_;intro v222 w4 ho5 hb hg_ hnew_;clear hg_ hnew_;(first|rw [← Ny221.out] at ho5|(simp only [Int.reduceToNat] at ho5;rw [← Ny221.out] at ho5));have n0_:=Aside0.mk (Kd.S_lower ho5 (below_size (by repeat (first|(with_reducible first|exact HB.out|apply below_alloc|apply pw_below_drewN|apply below_drew1)|exact HB.out))));have n1_:=Aside0.mk (below_step (by repeat (first|(with_reducible first|exact HB.out|apply below_alloc|apply pw_below_drewN|apply below_drew1)|exact HB.out)) hb);clear HB;have HO223:=n0_;have HB:=n1_;clear n0_ n1_;clear hb ho5))
   go_loopg [4] k (fun kq v4 w'=>∃ (x3_1:List (S57)) (x4_1:Int),v4=.int .i64 x4_1∧Aside0 (laws_toNodeS.l0 kq l0 x3_1 x4_1=some r)∧Aside0 (kq≤k)∧Aside0 (Kd.S k57 57 w' w.heap.size (fun _=>True) v222 x3_1)∧Aside0 (Below w.heap.size w w'))
   case atStart=>exact ⟨(y221),(0),(by first|rfl|(simp;done)|(simp [*];done)),H',⟨Nat.le_refl _⟩,⟨by (with_reducible repeat (first|apply Kd.S_alloc|apply Kd.S_drewN|apply Kd.S_drew));exact HO223.out⟩,⟨by repeat (first|(with_reducible first|exact HB.out|apply below_alloc|apply pw_below_drewN|apply below_drew1)|exact HB.out)⟩⟩
   case round=>
    clear H'
    try clear c1
    try clear c2
    try clear c2b0
    try clear c2b1
    try clear p2
    try clear c3
    try clear c3b0
    try clear c3b1
    obtain ⟨x3_1,x4_1,rfl,HA,HK1,HO_3,HB⟩:=hrel
    cases gk with
    |zero=>exact absurd HA.out (by simp [laws_toNodeS.l0])
    |succ k1=>
     have H:=HA.out
     clear HA
     simp only [laws_toNodeS.l0] at H
     by_cases c6:x4_1<(l0.length:Int)
     ·rw [if_pos c6] at H
      have c6b0:decide (x4_1<(l0.length:Int))=true:=decide_eq_true c6
      clear c6
      by_cases c7:0≤x4_1
      ·rw [if_pos c7] at H
       have c7b0:decide (0≤x4_1)=true:=decide_eq_true c7
       clear c7
       replace H:=Option.bind_eq_some_iff.mp H
       obtain ⟨⟨t225,t226,t227,t228,t231,t232⟩,A80,H⟩:=H
       replace H:(if x4_1<(x3_1.length:Int) then (laws_toNodeS.l0 k1 l0 (x3_1.set (x4_1:Int).toNat (⟨t225,t226,t227,t228,t231,t232⟩:S57)) (wrap64 (x4_1+1))) else (none))=some r:=H
       have A8:=Aside0.mk A80
       clear A80
       by_cases c9:x4_1<(x3_1.length:Int)
       ·rw [if_pos c9] at H
        have c9b0:decide (x4_1<(x3_1.length:Int))=true:=decide_eq_true c9
        clear c9
        obtain ⟨y233,hy233⟩:∃ y_:List (S57),y_=(x3_1.set (x4_1:Int).toNat (⟨t225,t226,t227,t228,t231,t232⟩:S57)):=⟨_,rfl⟩
        replace H:(laws_toNodeS.l0 k1 l0 y233 (wrap64 (x4_1+1)))=some r:=by first|(rw [hy233];with_reducible exact H)|(have H2_:=(Option.bind_some _ _).symm.trans H;rw [hy233];with_reducible exact H2_)|(have H2_:=(Option.bind_some _ _).symm.trans H;with_reducible exact H2_)|with_reducible exact H|(rw [hy233];exact H)|exact H
        have Ny233:=Aside0.mk hy233
        clear hy233
        have H':=Aside0.mk H
        clear H
        have p224:0≤(x4_1:Int):=of_decide_eq_true (by first|(with_reducible assumption)|assumption)
        have q224:x4_1<(l0.length:Int):=of_decide_eq_true (by first|(with_reducible assumption)|assumption)
        obtain ⟨ad224,A224_3,c224_3,e224,hx224_0,hx224_1,hx224_2,hx224_3,hx224_4,hx224_5,hl224_3,hi224_3⟩:=at_T63 HR0.out x4_1 p224 q224
        cases e224
        replace hx224_0:=(HB.out.cell (World.block_lt_of_cell? w _ hx224_0)).trans hx224_0
        replace hx224_1:=(HB.out.cell (World.block_lt_of_cell? w _ hx224_1)).trans hx224_1
        replace hx224_2:=(HB.out.cell (World.block_lt_of_cell? w _ hx224_2)).trans hx224_2
        replace hx224_3:=(HB.out.cell (World.block_lt_of_cell? w _ hx224_3)).trans hx224_3
        replace hx224_4:=(HB.out.cell (World.block_lt_of_cell? w _ hx224_4)).trans hx224_4
        replace hx224_5:=(HB.out.cell (World.block_lt_of_cell? w _ hx224_5)).trans hx224_5
        have HR224_3:=Aside0.mk hi224_3
        have HC224_3:=Aside0.mk hl224_3
        clear hi224_3 hl224_3
        replace p224:=eq_true p224
        replace q224:=eq_true q224
        go_wp2_with (first|((with_reducible refine gate_callee (f:=26) rfl ?_);refine goesL_ (some 20) rfl rfl Tryz.func26 (by kernel_rfl) rfl #[.agg #[.int .i64 ((rd_T63 l0 x4_1).f0),.int .i64 ((rd_T63 l0 x4_1).f1),.string ((rd_T63 l0 x4_1).f2),.slice A224_3 ((rd_T63 l0 x4_1).f3).length c224_3,.string ((rd_T63 l0 x4_1).f4),.int .i64 ((rd_T63 l0 x4_1).f5)]] rfl (by (try simp only [List.map_toArray,List.map_cons,List.map_nil]);first|done|rfl|(simp only [List.length_drop,List.length_take];rfl)) ?_;(with_reducible refine (laws_toNode.calls k1 ((rd_T63 l0 x4_1).f0) ((rd_T63 l0 x4_1).f1) ((rd_T63 l0 x4_1).f2) _ _ ((rd_T63 l0 x4_1).f3) ((rd_T63 l0 x4_1).f4) ((rd_T63 l0 x4_1).f5) t225 t226 t227 t228 t231 t232 _ ?side1 ?side2 A8.out).mono ?_);(case side1=>repeat (first|exact (Kd.C_below HR224_3.out HB.out)|(with_reducible refine Kd.C_alloc ?_ _)|(with_reducible refine Kd.C_drewN ?_ _)|(with_reducible refine Kd.C_drew ?_)));(case side2=>exact HC224_3.out);rintro e w11 ⟨v229,rfl,ho0,hb⟩;refine ⟨_,rfl,?_⟩;have n0_:=Aside0.mk (Kd.S_elder' (by (with_reducible repeat (first|apply Kd.S_alloc|apply Kd.S_drewN|apply Kd.S_drew));exact HO_3.out) (Kd.R_base ho0) hb);have n1_:=Aside0.mk (Kd.R_lower ho0 (below_size (by repeat (first|(with_reducible first|exact HB.out|apply below_alloc|apply pw_below_drewN|apply below_drew1)|exact HB.out))));have n2_:=Aside0.mk (below_step (by repeat (first|(with_reducible first|exact HB.out|apply below_alloc|apply pw_below_drewN|apply below_drew1)|exact HB.out)) hb);clear HO_3;clear HB;have HO_3:=n0_;have HO230:=n1_;have HB:=n2_;clear n0_ n1_ n2_;(try clear hb);(try clear hb2);(try clear hk);(try clear hi);(try clear ho0);have p10:0≤(x4_1:Int):=of_decide_eq_true (by first|(with_reducible assumption)|assumption);have q10:(x4_1:Int)<((x3_1.length:Int):Int):=of_decide_eq_true (by first|(with_reducible assumption)|assumption);obtain ⟨go10,co10,eo10,gb10,gl10,cl10,HG10⟩:=Kd.S_form HO_3.out (by omega);(first|cases eo10|(injection eo10 with ea_ en_ ec_;(first|subst ea_|(injection ea_ with ea_;subst ea_));subst ec_;clear en_));have GB10:=Aside0.mk gb10;have GG10:=Aside0.mk HG10;clear gb10 gl10 HG10;obtain ⟨_,ce10,hcl10,hM10,hcc10,hfr10,_,_⟩:=Kd.S_elem HO_3.out z57 (x4_1:Int) p10 q10;obtain ⟨ve10_3,rfl,ge10_3⟩:=k57_openM hM10;have hx10_0:w11.cell? ⟨go10,(x4_1:Int).toNat*6,none⟩=some (.int .i64 ((rd_T57 x3_1 x4_1).f0)):=hcc10 0 _ rfl;have hx10_1:w11.cell? ⟨go10,(x4_1:Int).toNat*6+1,none⟩=some (.int .i64 ((rd_T57 x3_1 x4_1).f1)):=hcc10 1 _ rfl;have hx10_2:w11.cell? ⟨go10,(x4_1:Int).toNat*6+2,none⟩=some (.string ((rd_T57 x3_1 x4_1).f2)):=hcc10 2 _ rfl;have hx10_3:w11.cell? ⟨go10,(x4_1:Int).toNat*6+3,none⟩=some (ve10_3):=hcc10 3 _ rfl;have hx10_4:w11.cell? ⟨go10,(x4_1:Int).toNat*6+4,none⟩=some (.string ((rd_T57 x3_1 x4_1).f4)):=hcc10 4 _ rfl;have hx10_5:w11.cell? ⟨go10,(x4_1:Int).toNat*6+5,none⟩=some (.int .i64 ((rd_T57 x3_1 x4_1).f5)):=hcc10 5 _ rfl;have hf10_0:w11.frozen? ⟨go10,(x4_1:Int).toNat*6,none⟩=false:=hfr10 0;have hf10_1:w11.frozen? ⟨go10,(x4_1:Int).toNat*6+1,none⟩=false:=hfr10 1;have hf10_2:w11.frozen? ⟨go10,(x4_1:Int).toNat*6+2,none⟩=false:=hfr10 2;have hf10_3:w11.frozen? ⟨go10,(x4_1:Int).toNat*6+3,none⟩=false:=hfr10 3;have hf10_4:w11.frozen? ⟨go10,(x4_1:Int).toNat*6+4,none⟩=false:=hfr10 4;have hf10_5:w11.frozen? ⟨go10,(x4_1:Int).toNat*6+5,none⟩=false:=hfr10 5;clear hcl10 hcc10 hfr10 hM10;replace p10:=eq_true p10;replace q10:=eq_true q10;have n_:=Aside0.mk (Kd.S_mono (ok':=(fun k_=>some k_≠(v229:Value).ownBlock)) HO_3.out (fun k_ hk=>hk.2));clear HO_3;have HO_3:=n_;clear n_;have HX12:=Aside0.mk (show Kd.S k57 57 w11 w.heap.size (fun k_=>((fun _=>True)) k_∧¬ ((fun k_=>some k_=(v229:Value).ownBlock)) k_) (.slice (some ⟨go10,0,none⟩) x3_1.length co10) x3_1 from (by (with_reducible repeat (first|apply Kd.S_alloc|apply Kd.S_drewN|apply Kd.S_drew));exact Kd.S_mono HO_3.out (fun k_ hk=>⟨trivial,fun e_=>hk e_⟩)));obtain ⟨oki12,ce12,hcl12,hM12,hcc12,hfr12,hoki12,hH12⟩:=Kd.S_elem HX12.out z57 (x4_1:Int) (of_decide_eq_true (by first|(with_reducible assumption)|assumption)) (by have h_:(x4_1:Int)<((x3_1.length:Int):Int):=of_decide_eq_true (by first|(with_reducible assumption)|assumption);first|exact h_|(have e_:=(Kd.S_reads' HO_3.out).1;omega)|simpa using h_);obtain ⟨ve12_3,rfl,ge12_3⟩:=k57_openM hM12;have HP12:=Kd.S_seg hH12 (of_decide_eq_true (by first|(with_reducible assumption)|assumption)) (by have h_:(x4_1:Int)<((x3_1.length:Int):Int):=of_decide_eq_true (by first|(with_reducible assumption)|assumption);first|exact h_|(have e_:=(Kd.S_reads' HO_3.out).1;omega)|simpa using h_) (seg:=[.int .i64 t225,.int .i64 t226,.string t227,v229,.string t231,.int .i64 t232]) (j:=0) (show 6≤6 from by decide) (x':=(⟨t225,t226,t227,t228,t231,t232⟩:S57)) (k57_mkM _ _ _ (⟨t225,t226,t227,t228,t231,t232⟩:S57) (Kd.R_mono (Kd.R_tight rfl (Kd.R_mono (ok':=fun k_=>((fun _=>True)) k_∧k_≠go10) (Kd.R_apart' (HO230.out) (Kd.S_typed HO_3.out) (by decide)) (fun k_ hk=>⟨trivial,fun e_=>(hk.2) (by rw [e_];rfl)⟩))) (fun _ h_=>Or.inr (h_)))) (fun _ hk=>hk) (fun k_ hk_=>((Kd.R_mono (ok':=fun k_=>((fun _=>True)) k_∧k_≠go10) (Kd.R_apart' (HO230.out) (Kd.S_typed HO_3.out) (by decide)) (fun k_ hk=>⟨trivial,fun e_=>(hk.2) (by rw [e_];rfl)⟩))).1 k_ hk_.symm);have hx12_0:=hcc12 0 _ rfl;(try simp only [show (k57).sz=6 from rfl,Nat.mul_one,Nat.add_zero] at hx12_0);have hf12_0:=hfr12 0;(try simp only [show (k57).sz=6 from rfl,Nat.mul_one,Nat.add_zero] at hf12_0);have hx12_1:=hcc12 1 _ rfl;(try simp only [show (k57).sz=6 from rfl,Nat.mul_one,Nat.add_zero] at hx12_1);have hf12_1:=hfr12 1;(try simp only [show (k57).sz=6 from rfl,Nat.mul_one,Nat.add_zero] at hf12_1);have hx12_2:=hcc12 2 _ rfl;(try simp only [show (k57).sz=6 from rfl,Nat.mul_one,Nat.add_zero] at hx12_2);have hf12_2:=hfr12 2;(try simp only [show (k57).sz=6 from rfl,Nat.mul_one,Nat.add_zero] at hf12_2);have hx12_3:=hcc12 3 _ rfl;(try simp only [show (k57).sz=6 from rfl,Nat.mul_one,Nat.add_zero] at hx12_3);have hf12_3:=hfr12 3;(try simp only [show (k57).sz=6 from rfl,Nat.mul_one,Nat.add_zero] at hf12_3);have hx12_4:=hcc12 4 _ rfl;(try simp only [show (k57).sz=6 from rfl,Nat.mul_one,Nat.add_zero] at hx12_4);have hf12_4:=hfr12 4;(try simp only [show (k57).sz=6 from rfl,Nat.mul_one,Nat.add_zero] at hf12_4);have hx12_5:=hcc12 5 _ rfl;(try simp only [show (k57).sz=6 from rfl,Nat.mul_one,Nat.add_zero] at hx12_5);have hf12_5:=hfr12 5;(try simp only [show (k57).sz=6 from rfl,Nat.mul_one,Nat.add_zero] at hf12_5);clear hcl12 hcc12 hfr12 hM12 hoki12 hH12)|((with_reducible refine gate_store (t:=57) (p:=21) rfl ?_);refine store_event (t:=57) (p:=21) (v:=?vo_w13) (w1:=((((((w11.setCell ⟨go10,(x4_1:Int).toNat*6,none⟩ (.int .i64 t225)).setCell ⟨go10,(x4_1:Int).toNat*6+1,none⟩ (.int .i64 t226)).setCell ⟨go10,(x4_1:Int).toNat*6+2,none⟩ (.string t227)).setCell ⟨go10,(x4_1:Int).toNat*6+3,none⟩ (v229)).setCell ⟨go10,(x4_1:Int).toNat*6+4,none⟩ (.string t231)).setCell ⟨go10,(x4_1:Int).toNat*6+5,none⟩ (.int .i64 t232))) ?hg ?ho ?hn ?hr ?_;(case ho=>rfl);(case hg=>rfl);(case hn=>rfl);(case hr=>first|(go_simp;done)|(go_simp;rfl)|(have o229_:(v229:Value).oneCell'=true:=(by first|(obtain ⟨A_,c_,e_⟩:=Kd.R_slice HO230.out;rw [e_];rfl)|(obtain ⟨A_,c_,e_⟩:=Kd.S_slice HO230.out;rw [e_];rfl)|(obtain ⟨A_,c_,e_⟩:=Kd.N_slice HO230.out;rw [e_];rfl));go_simp;(try rw [run_store _ _ _ _ _ o229_]);go_simp;done));intro w13 hw;have hg:w11.grownBy w13 (some go10):=(by rw [hw];exact HP12.2);have hp_:Kd.S k57 57 w13 w.heap.size (fun _=>True) (.slice (some ⟨go10,0,none⟩) x3_1.length co10) y233:=(by rw [hw,Ny233.out];exact HP12.1);clear HP12;have n0_:=Aside0.mk (hp_);have n1_:=Aside0.mk ((by rw [hw];exact below_set (below_set (below_set (below_set (below_set (below_set (HB.out) GB10.out) GB10.out) GB10.out) GB10.out) GB10.out) GB10.out:Below w.heap.size w w13));clear HO_3;clear HB;clear HO230;have HO_3:=n0_;have HB:=n1_;clear n0_ n1_;clear hg hw hp_))
        go_roundg k1
        case measure=>have:=HK1.out;omega
        case rel=>exact ⟨(y233),(wrap64 (x4_1+1)),(by first|rfl|(simp;done)|(simp [*];done)),H',⟨by have:=HK1.out;omega⟩,⟨by (with_reducible repeat (first|apply Kd.S_alloc|apply Kd.S_drewN|apply Kd.S_drew));exact HO_3.out⟩,⟨by repeat (first|(with_reducible first|exact HB.out|apply below_alloc|apply pw_below_drewN|apply below_drew1)|exact HB.out)⟩⟩
       ·rw [if_neg c9] at H
        exact absurd H (by simp)
      ·rw [if_neg c7] at H
       exact absurd H (by simp)
     ·rw [if_neg c6] at H
      have c6b0:decide (x4_1<(l0.length:Int))=false:=decide_eq_false c6
      clear c6
      obtain rfl:=Option.some.inj H
      go_wp2
      go_ret
      exact ⟨_,by first|rfl|(simp [errW_none,errW_some]<;>rfl)|(simp [*,errW_none,errW_some]<;>rfl),by (with_reducible repeat (first|apply Kd.S_alloc|apply Kd.S_drewN|apply Kd.S_drew));exact HO_3.out,by repeat (first|(with_reducible first|exact HB.out|apply below_alloc|apply pw_below_drewN|apply below_drew1)|exact HB.out)⟩
  ·rw [if_neg c3] at H
   exact absurd H (by simp)
 ·rw [if_neg c2] at H
  exact absurd H (by simp)
/-! ### laws_toTree: function 7 -/
def laws_toTree.f (k:Nat) (l0_0:List (S63)):Option ((List (S57))):=(laws_toNodeS.f k l0_0).bind fun t237=>(some t237)
theorem laws_toTree.mono:∀ a0 k,LeO (laws_toTree.f k a0) (laws_toTree.f (k+1) a0):=by
 intro a0 k
 unfold laws_toTree.f
 repeat' first
   |(with_reducible exact laws_toNodeS.mono _ _)
   |(with_reducible exact LeO.refl _)
   |(with_reducible exact LeO.none _)
   |(with_reducible refine LeO.ite ?_ ?_)
   |(with_reducible refine LeO.bind ?_ (fun _=>?_))
   |exact laws_toNodeS.mono _ _
   |exact LeO.none _
   |refine LeO.ite ?_ ?_
   |refine LeO.bind ?_ (fun _=>?_)
set_option maxHeartbeats 8000000 in
set_option maxRecDepth 100000 in
theorem laws_toTree.calls (k:Nat) (A0_0:Option Addr) (c0_0:Nat) (l0_0:List (S63)) (r:List (S57)) (w:World) (hr0_0:Kd.C k63 w A0_0 l0_0.length l0_0) (hc0_0:l0_0.length≤c0_0) (h:laws_toTree.f k l0_0=some r) :
  Calls Tryz.prog 7 #[.agg #[.slice A0_0 l0_0.length c0_0]] w fun e w'=>∃ v0_:Value,e=.returned (.agg #[v0_])∧Kd.S k57 57 w' w.heap.size (fun _=>True) v0_ r∧Below w.heap.size w w':=by
 have hu24:=Tryz.underlying24
 have hu29:=Tryz.underlying29
 have HR0_0:=Aside0.mk hr0_0
 have HC0_0:=Aside0.mk hc0_0
 clear hr0_0 hc0_0
 have HB:=Aside0.mk (Below.refl w.heap.size w)
 have H:((laws_toNodeS.f k l0_0).bind fun t237=>(some t237))=some r:=h
 clear h
 replace H:=Option.bind_eq_some_iff.mp H
 obtain ⟨t237,A20,H⟩:=H
 replace H:(some t237)=some r:=H
 have A2:=Aside0.mk A20
 clear A20
 obtain rfl:=Option.some.inj H
 go_enter Tryz.func7,Tryz.ntmps7
 go_wp2_with (first|((with_reducible refine gate_dst (N:=1) rfl ?_);refine box_event ?hg (N:=1) ?hd (cs:=#[.slice A0_0 l0_0.length c0_0]) (t:=24) ?hr ?_;(case hd=>rfl);(case hg=>rfl);(case hr=>first|(go_simp;done)|(go_simp;rfl));intro gb234 hg w3 hbox hb;have n0_:=Aside0.mk (below_step (by repeat (first|(with_reducible first|exact HB.out|apply below_alloc|apply pw_below_drewN|apply below_drew1)|exact HB.out)) hb);have n1_:=Aside0.mk (hbox);have n2_:=Aside0.mk ((by rw [hg];exact (below_size (by repeat (first|(with_reducible first|exact HB.out|apply below_alloc|apply pw_below_drewN|apply below_drew1)|exact HB.out))):w.heap.size≤gb234));have n3_:=Aside0.mk ((by rw [hg];exact (below_size (by repeat (first|(with_reducible first|exact HB.out|apply below_alloc|apply pw_below_drewN|apply below_drew1)|exact HB.out))):w.heap.size≤gb234));clear HB;have HB:=n0_;have BK234:=n1_;have GW234:=n2_;have GE234:=n3_;clear n0_ n1_ n2_ n3_;clear hb hbox hg)|((with_reducible refine gate_dst (N:=2) rfl ?_);refine box_event ?hg (N:=2) ?hd (cs:=#[.slice none 0 0]) (t:=29) ?hr ?_;(case hd=>rfl);(case hg=>rfl);(case hr=>first|(go_simp;done)|(go_simp;rfl));intro gb235 hg w4 hbox hb;have n0_:=Aside0.mk (blk_below (g:=gb234) (o:=.cells #[.slice A0_0 l0_0.length c0_0] 24 (0,0)) (by (with_reducible repeat (first|refine blk_drewN ?_ _|refine blk_drew ?_|refine blk_alloc ?_ _));exact BK234.out) hb);have n1_:=Aside0.mk (below_step (by repeat (first|(with_reducible first|exact HB.out|apply below_alloc|apply pw_below_drewN|apply below_drew1|refine below_set ?_ GE234.out)|exact HB.out)) hb);have n2_:=Aside0.mk (hbox);have n3_:=Aside0.mk ((by rw [hg];exact (below_size (by repeat (first|(with_reducible first|exact HB.out|apply below_alloc|apply pw_below_drewN|apply below_drew1|refine below_set ?_ GE234.out)|exact HB.out))):w.heap.size≤gb235));have n4_:=Aside0.mk ((by rw [hg];exact (below_size (by repeat (first|(with_reducible first|exact HB.out|apply below_alloc|apply pw_below_drewN|apply below_drew1|refine below_set ?_ GE234.out)|exact HB.out))):w.heap.size≤gb235));have n5_:=Aside0.mk ((by rw [hg];exact Nat.ne_of_lt (blk_lt (g:=gb234) (o:=.cells #[.slice A0_0 l0_0.length c0_0] 24 (0,0)) (by (with_reducible repeat (first|refine blk_drewN ?_ _|refine blk_drew ?_|refine blk_alloc ?_ _));exact BK234.out)):gb234≠gb235));have n6_:=Aside0.mk ((by rw [hg];exact Nat.ne_of_gt (blk_lt (g:=gb234) (o:=.cells #[.slice A0_0 l0_0.length c0_0] 24 (0,0)) (by (with_reducible repeat (first|refine blk_drewN ?_ _|refine blk_drew ?_|refine blk_alloc ?_ _));exact BK234.out)):gb235≠gb234));clear BK234;clear HB;have BK234:=n0_;have HB:=n1_;have BK235:=n2_;have GW235:=n3_;have GE235:=n4_;have NB234_235:=n5_;have NB235_234:=n6_;clear n0_ n1_ n2_ n3_ n4_ n5_ n6_;clear hb hbox hg)|((with_reducible refine gate_dst (N:=3) rfl ?_);refine box_event ?hg (N:=3) ?hd (cs:=#[.slice none 0 0]) (t:=29) ?hr ?_;(case hd=>rfl);(case hg=>rfl);(case hr=>first|(go_simp;done)|(go_simp;rfl));intro gb236 hg w5 hbox hb;have n0_:=Aside0.mk (blk_below (g:=gb234) (o:=.cells #[.slice A0_0 l0_0.length c0_0] 24 (0,0)) (by (with_reducible repeat (first|refine blk_drewN ?_ _|refine blk_drew ?_|refine blk_alloc ?_ _));exact BK234.out) hb);have n1_:=Aside0.mk (blk_below (g:=gb235) (o:=.cells #[.slice none 0 0] 29 (0,0)) (by (with_reducible repeat (first|refine blk_drewN ?_ _|refine blk_drew ?_|refine blk_alloc ?_ _));exact BK235.out) hb);have n2_:=Aside0.mk (below_step (by repeat (first|(with_reducible first|exact HB.out|apply below_alloc|apply pw_below_drewN|apply below_drew1|refine below_set ?_ GE234.out|refine below_set ?_ GE235.out)|exact HB.out)) hb);have n3_:=Aside0.mk (hbox);have n4_:=Aside0.mk ((by rw [hg];exact (below_size (by repeat (first|(with_reducible first|exact HB.out|apply below_alloc|apply pw_below_drewN|apply below_drew1|refine below_set ?_ GE234.out|refine below_set ?_ GE235.out)|exact HB.out))):w.heap.size≤gb236));have n5_:=Aside0.mk ((by rw [hg];exact (below_size (by repeat (first|(with_reducible first|exact HB.out|apply below_alloc|apply pw_below_drewN|apply below_drew1|refine below_set ?_ GE234.out|refine below_set ?_ GE235.out)|exact HB.out))):w.heap.size≤gb236));have n6_:=Aside0.mk ((by rw [hg];exact Nat.ne_of_lt (blk_lt (g:=gb234) (o:=.cells #[.slice A0_0 l0_0.length c0_0] 24 (0,0)) (by (with_reducible repeat (first|refine blk_drewN ?_ _|refine blk_drew ?_|refine blk_alloc ?_ _));exact BK234.out)):gb234≠gb236));have n7_:=Aside0.mk ((by rw [hg];exact Nat.ne_of_gt (blk_lt (g:=gb234) (o:=.cells #[.slice A0_0 l0_0.length c0_0] 24 (0,0)) (by (with_reducible repeat (first|refine blk_drewN ?_ _|refine blk_drew ?_|refine blk_alloc ?_ _));exact BK234.out)):gb236≠gb234));have n8_:=Aside0.mk ((by rw [hg];exact Nat.ne_of_lt (blk_lt (g:=gb235) (o:=.cells #[.slice none 0 0] 29 (0,0)) (by (with_reducible repeat (first|refine blk_drewN ?_ _|refine blk_drew ?_|refine blk_alloc ?_ _));exact BK235.out)):gb235≠gb236));have n9_:=Aside0.mk ((by rw [hg];exact Nat.ne_of_gt (blk_lt (g:=gb235) (o:=.cells #[.slice none 0 0] 29 (0,0)) (by (with_reducible repeat (first|refine blk_drewN ?_ _|refine blk_drew ?_|refine blk_alloc ?_ _));exact BK235.out)):gb236≠gb235));clear BK234;clear BK235;clear HB;have BK234:=n0_;have BK235:=n1_;have HB:=n2_;have BK236:=n3_;have GW236:=n4_;have GE236:=n5_;have NB234_236:=n6_;have NB236_234:=n7_;have NB235_236:=n8_;have NB236_235:=n9_;clear n0_ n1_ n2_ n3_ n4_ n5_ n6_ n7_ n8_ n9_;clear hb hbox hg;have hnb6:=NB234_235.out;have hnc6:=NB235_234.out;have hnb7:=NB234_236.out;have hnc7:=NB236_234.out;have hcz8_0:w5.cell? ⟨gb234,0,none⟩=some (.slice A0_0 l0_0.length c0_0):=(blk_cell BK234.out 0).trans rfl;have hfz8_0:=blk_frozen BK234.out 0)|((with_reducible refine gate_callee (f:=15) rfl ?_);refine goesL_ (some 6) rfl rfl Tryz.func15 (by kernel_rfl) rfl #[.slice A0_0 l0_0.length c0_0] rfl (by (try simp only [List.map_toArray,List.map_cons,List.map_nil]);first|done|rfl|(simp only [List.length_drop,List.length_take];rfl)) ?_;(with_reducible refine (laws_toNodeS.calls k _ _ l0_0 t237 _ ?side1 ?side2 A2.out).mono ?_);(case side1=>repeat (first|exact (Kd.C_below HR0_0.out HB.out)|(with_reducible refine Kd.C_alloc ?_ _)|(with_reducible refine Kd.C_drewN ?_ _)|(with_reducible refine Kd.C_drew ?_)));(case side2=>exact HC0_0.out);rintro e w9 ⟨v238,rfl,ho0,hb⟩;refine ⟨_,rfl,?_⟩;have n0_:=Aside0.mk (Kd.S_lower ho0 (below_size (by repeat (first|(with_reducible first|exact HB.out|apply below_alloc|apply pw_below_drewN|apply below_drew1|refine below_set ?_ GE234.out|refine below_set ?_ GE235.out|refine below_set ?_ GE236.out)|exact HB.out))));have n1_:=Aside0.mk (blk_below (g:=gb234) (o:=.cells #[.slice A0_0 l0_0.length c0_0] 24 (0,0)) (by (with_reducible repeat (first|refine blk_drewN ?_ _|refine blk_drew ?_|refine blk_alloc ?_ _));exact BK234.out) hb);have n2_:=Aside0.mk (blk_below (g:=gb235) (o:=.cells #[.slice none 0 0] 29 (0,0)) (by (with_reducible repeat (first|refine blk_drewN ?_ _|refine blk_drew ?_|refine blk_alloc ?_ _));exact BK235.out) hb);have n3_:=Aside0.mk (blk_below (g:=gb236) (o:=.cells #[.slice none 0 0] 29 (0,0)) (by (with_reducible repeat (first|refine blk_drewN ?_ _|refine blk_drew ?_|refine blk_alloc ?_ _));exact BK236.out) hb);have n4_:=Aside0.mk (below_step (by repeat (first|(with_reducible first|exact HB.out|apply below_alloc|apply pw_below_drewN|apply below_drew1|refine below_set ?_ GE234.out|refine below_set ?_ GE235.out|refine below_set ?_ GE236.out)|exact HB.out)) hb);clear BK234;clear BK235;clear BK236;clear HB;have HO239:=n0_;have BK234:=n1_;have BK235:=n2_;have BK236:=n3_;have HB:=n4_;clear n0_ n1_ n2_ n3_ n4_;(try clear hb);(try clear hb2);(try clear hk);(try clear hi);(try clear ho0);obtain ⟨Ao10,co10,eo10⟩:=Kd.S_slice HO239.out;subst eo10;have hnb11:=NB236_235.out;have hnc11:=NB235_236.out;have hcz12_0:w9.cell? ⟨gb236,0,none⟩=some (.slice none 0 0):=(blk_cell BK236.out 0).trans rfl;have hfz12_0:=blk_frozen BK236.out 0;have hcz13_0:w9.cell? ⟨gb235,0,none⟩=some (.slice none 0 0):=(blk_cell BK235.out 0).trans rfl;have hfz13_0:=blk_frozen BK235.out 0))
 refine bodyPost_ret (results_cell_row rfl _ _ gb235 29 #[.slice Ao10 t237.length co10] (0,0) _ rfl (by (with_reducible repeat (first|refine blk_drewN ?_ _|refine blk_drew ?_|refine blk_alloc ?_ _));refine blk_put (cs:=#[.slice none 0 0]) ?_ 0 _ rfl;(with_reducible repeat (first|refine blk_drewN ?_ _|refine blk_drew ?_|refine blk_alloc ?_ _));refine blk_far ?_ NB235_236.out _;(with_reducible repeat (first|refine blk_drewN ?_ _|refine blk_drew ?_|refine blk_alloc ?_ _));exact BK235.out) Tryz.underlying29 rfl (by kernel_rfl)) rfl ?_
 exact ⟨_,by first|rfl|(simp [errW_none,errW_some]<;>rfl)|(simp [*,errW_none,errW_some]<;>rfl),by (with_reducible repeat (first|apply Kd.S_alloc|apply Kd.S_drewN|apply Kd.S_drew));exact Kd.S_mono (Kd.S_far (p:=⟨gb235,0,none⟩) (Kd.S_far (p:=⟨gb236,0,none⟩) (Kd.S_types (Kd.S_types HO239.out BK236.out (by decide)) BK235.out (by decide)) (fun _ hk=>hk.1.2) (.slice Ao10 t237.length co10)) (fun _ hk=>hk.2) (.slice Ao10 t237.length co10)) (fun _ hk=>trivial),by repeat (first|(with_reducible first|exact HB.out|apply below_alloc|apply pw_below_drewN|apply below_drew1|refine below_set ?_ GE234.out|refine below_set ?_ GE235.out|refine below_set ?_ GE236.out)|exact HB.out)⟩
/-! ### impl_attrsRight: function 38 -/
def impl_attrsRight.l0:Nat→List ByteArray→List (S77)→Int→Int→Option (Bool)
 |0,_,_,_,_=>none
 |k+1,x3,x7,x8,x9=>if x9<x8 then (if 0≤x9 then (if x9<(x7.length:Int) then (if ((rd_T77 x7 x9).f0).toList=([]:List UInt8) then (some false) else (if smem x3 ((rd_T77 x7 x9).f0)=true then (some false) else (if (0:Nat)≤9223372036854775807 then (impl_attrsRight.l0 k (((rd_T77 x7 x9).f0)::x3) x7 x8 (wrap64 (x9+1))) else (none)))) else (none)) else (none)) else (some true)
def impl_attrsRight.f (k:Nat) (l0:List (S77)):Option (Bool):=impl_attrsRight.l0 k ([]:List ByteArray) l0 (l0.length:Int) 0
theorem impl_attrsRight.mono_l:∀ k,(∀ y0 y1 y2 y3,LeO (impl_attrsRight.l0 k y0 y1 y2 y3) (impl_attrsRight.l0 (k+1) y0 y1 y2 y3))
 |0=>fun _ _ _ _ r h=>by simp [impl_attrsRight.l0] at h
 |k+1=>by
  have ih0:=impl_attrsRight.mono_l k
  ·intro y0 y1 y2 y3
   unfold impl_attrsRight.l0
   repeat' first
   |(with_reducible exact ih0 _ _ _ _)
   |(with_reducible exact LeO.refl _)
   |(with_reducible exact LeO.none _)
   |(with_reducible refine LeO.ite ?_ ?_)
   |(with_reducible refine LeO.bind ?_ (fun _=>?_))
   |exact ih0 _ _ _ _
   |exact LeO.none _
   |refine LeO.ite ?_ ?_
   |refine LeO.bind ?_ (fun _=>?_)
theorem impl_attrsRight.mono:∀ a0 k,LeO (impl_attrsRight.f k a0) (impl_attrsRight.f (k+1) a0):=by
 intro a0 k
 have ih0:=impl_attrsRight.mono_l k
 unfold impl_attrsRight.f
 repeat' first
   |(with_reducible exact ih0 _ _ _ _)
   |(with_reducible exact LeO.refl _)
   |(with_reducible exact LeO.none _)
   |(with_reducible refine LeO.ite ?_ ?_)
   |(with_reducible refine LeO.bind ?_ (fun _=>?_))
   |exact ih0 _ _ _ _
   |exact LeO.none _
   |refine LeO.ite ?_ ?_
   |refine LeO.bind ?_ (fun _=>?_)
set_option maxHeartbeats 8000000 in
set_option maxRecDepth 100000 in
theorem impl_attrsRight.calls (k:Nat) (A0:Option Addr) (c0:Nat) (l0:List (S77)) (r:Bool) (w:World) (hr0:Kd.C k77 w A0 l0.length l0) (hc0:l0.length≤c0) (h:impl_attrsRight.f k l0=some r) :
  Calls Tryz.prog 38 #[.slice A0 l0.length c0] w fun e w'=>e=.returned (.bool r)∧Below w.heap.size w w':=by
 have hu77:=Tryz.underlying77
 have HR0:=Aside0.mk hr0
 have HC0:=Aside0.mk hc0
 clear hr0 hc0
 have HB:=Aside0.mk (Below.refl w.heap.size w)
 have H:(impl_attrsRight.l0 k ([]:List ByteArray) l0 (l0.length:Int) 0)=some r:=h
 clear h
 have H':=Aside0.mk H
 clear H
 have hmm:=@run_makeMap Tryz.prog
 go_enter Tryz.func38,Tryz.ntmps38
 go_wp2_with (first|((with_reducible refine gate_dst (N:=6) rfl ?_);refine make_event ?hg (N:=6) ?hd ?hr ?_;(case hd=>rfl);(case hg=>rfl);(case hr=>first|(go_simp;done)|(go_simp;rfl));intro gm hg wM hbox hb;have n0_:=Aside0.mk (below_step (by repeat (first|(with_reducible first|exact HB.out|apply below_alloc|apply pw_below_drewN|apply below_drew1)|exact HB.out)) hb);have n1_:=Aside0.mk (show wM.heap[gm]?=some (sobj Value.string []) from hbox);have n2_:=Aside0.mk ((by rw [hg];exact (below_size (by repeat (first|(with_reducible first|exact HB.out|apply below_alloc|apply pw_below_drewN|apply below_drew1)|exact HB.out)))):w.heap.size≤gm);clear HB;have HB:=n0_;have BKM:=n1_;have GEM:=n2_;clear n0_ n1_ n2_;clear hb hbox hg))
 clear hmm
 go_loopg [9] k (fun kq v9 w'=>∃ (x3_1:List ByteArray) (x9_1:Int),v9=.int .i64 x9_1∧Aside0 (impl_attrsRight.l0 kq x3_1 l0 (l0.length:Int) x9_1=some r)∧Aside0 (kq≤k)∧Aside0 (w'.heap[gm]?=some (sobj Value.string x3_1))∧Aside0 (Below w.heap.size w w'))
 case atStart=>exact ⟨(([]:List ByteArray)),(0),(by first|rfl|(simp;done)|(simp [*];done)),H',⟨Nat.le_refl _⟩,⟨by (with_reducible repeat (first|exact BKM.out|refine blk_drewN ?_ _|refine blk_drew ?_|refine blk_alloc ?_ _))⟩,⟨by repeat (first|(with_reducible first|exact HB.out|apply below_alloc|apply pw_below_drewN|apply below_drew1)|exact HB.out)⟩⟩
 case round=>
  clear H'
  obtain ⟨x3_1,x9_1,rfl,HA,HK1,BKM,HB⟩:=hrel
  cases gk with
  |zero=>exact absurd HA.out (by simp [impl_attrsRight.l0])
  |succ k1=>
   have H:=HA.out
   clear HA
   simp only [impl_attrsRight.l0] at H
   by_cases c2:x9_1<(l0.length:Int)
   ·rw [if_pos c2] at H
    have c2b0:decide (x9_1<(l0.length:Int))=true:=decide_eq_true c2
    clear c2
    by_cases c3:0≤x9_1
    ·rw [if_pos c3] at H
     have c3b0:decide (0≤x9_1)=true:=decide_eq_true c3
     clear c3
     by_cases c4:x9_1<(l0.length:Int)
     ·rw [if_pos c4] at H
      have c4b0:decide (x9_1<(l0.length:Int))=true:=decide_eq_true c4
      clear c4
      by_cases c5:((rd_T77 l0 x9_1).f0).toList=([]:List UInt8)
      ·rw [if_pos c5] at H
       have c5b0:(((rd_T77 l0 x9_1).f0).toList==([]:List UInt8))=true:=beq_iff_eq.mpr c5
       have c5b1:(((rd_T77 l0 x9_1).f0).toList != ([]:List UInt8))=false:=bne_eq_false_iff_eq.mpr c5
       clear c5
       obtain rfl:=Option.some.inj H
       have p240:0≤(x9_1:Int):=of_decide_eq_true (by first|(with_reducible assumption)|assumption)
       have q240:x9_1<(l0.length:Int):=of_decide_eq_true (by first|(with_reducible assumption)|assumption)
       obtain ⟨ad240,e240,hx240_0,hx240_1⟩:=at_T77 HR0.out x9_1 p240 q240
       cases e240
       replace hx240_0:=(HB.out.cell (World.block_lt_of_cell? w _ hx240_0)).trans hx240_0
       replace hx240_1:=(HB.out.cell (World.block_lt_of_cell? w _ hx240_1)).trans hx240_1
       replace p240:=eq_true p240
       replace q240:=eq_true q240
       go_wp2_with (first|((with_reducible refine gate_dst (N:=5) rfl ?_);refine box_event ?hg (N:=5) ?hd (cs:=#[.string (⟨#[]⟩:ByteArray),.string (⟨#[]⟩:ByteArray)]) (t:=77) ?hr ?_;(case hd=>rfl);(case hg=>rfl);(case hr=>first|(go_simp;done)|(go_simp;rfl));intro gb241 hg w6 hbox hb;have m0_:=Aside0.mk (blk_below (g:=gm) (o:=sobj Value.string x3_1) (by exact (by (with_reducible repeat (first|exact BKM.out|refine blk_drewN ?_ _|refine blk_drew ?_|refine blk_alloc ?_ _)))) hb);have m1_:=Aside0.mk (show gm≠gb241 from (by rw [hg];exact Nat.ne_of_lt (blk_lt (o:=sobj Value.string x3_1) (by exact (by (with_reducible repeat (first|exact BKM.out|refine blk_drewN ?_ _|refine blk_drew ?_|refine blk_alloc ?_ _)))))));clear BKM;have BKM:=m0_;have NBM_241:=m1_;clear m0_ m1_;have n0_:=Aside0.mk (below_step (by repeat (first|(with_reducible first|exact HB.out|apply below_alloc|apply pw_below_drewN|apply below_drew1)|exact HB.out)) hb);have n1_:=Aside0.mk (hbox);have n2_:=Aside0.mk ((by rw [hg];exact (below_size (by repeat (first|(with_reducible first|exact HB.out|apply below_alloc|apply pw_below_drewN|apply below_drew1)|exact HB.out))):w.heap.size≤gb241));have n3_:=Aside0.mk ((by rw [hg];exact (below_size (by repeat (first|(with_reducible first|exact HB.out|apply below_alloc|apply pw_below_drewN|apply below_drew1)|exact HB.out))):w.heap.size≤gb241));clear HB;have HB:=n0_;have BK241:=n1_;have GW241:=n2_;have GE241:=n3_;clear n0_ n1_ n2_ n3_;clear hb hbox hg;have hcz7_0:w6.cell? ⟨gb241,0,none⟩=some (.string (⟨#[]⟩:ByteArray)):=(blk_cell BK241.out 0).trans rfl;have hcz7_1:w6.cell? ⟨gb241,1,none⟩=some (.string (⟨#[]⟩:ByteArray)):=(blk_cell BK241.out 1).trans rfl;have hfz7_0:=blk_frozen BK241.out 0;have hfz7_1:=blk_frozen BK241.out 1))
       go_ret
       exact ⟨by first|rfl|(simp [errW_none,errW_some]<;>rfl)|(simp [*,errW_none,errW_some]<;>rfl),by repeat (first|(with_reducible first|exact HB.out|apply below_alloc|apply pw_below_drewN|apply below_drew1|refine below_set ?_ GE241.out)|exact HB.out)⟩
      ·rw [if_neg c5] at H
       have c5b0:(((rd_T77 l0 x9_1).f0).toList==([]:List UInt8))=false:=beq_eq_false_iff_ne.mpr c5
       have c5b1:(((rd_T77 l0 x9_1).f0).toList != ([]:List UInt8))=true:=bne_iff_ne.mpr c5
       by_cases c8:smem x3_1 ((rd_T77 l0 x9_1).f0)=true
       ·rw [if_pos c8] at H
        have CM:=Aside0.mk c8
        clear c8
        obtain rfl:=Option.some.inj H
        have p240:0≤(x9_1:Int):=of_decide_eq_true (by first|(with_reducible assumption)|assumption)
        have q240:x9_1<(l0.length:Int):=of_decide_eq_true (by first|(with_reducible assumption)|assumption)
        obtain ⟨ad240,e240,hx240_0,hx240_1⟩:=at_T77 HR0.out x9_1 p240 q240
        cases e240
        replace hx240_0:=(HB.out.cell (World.block_lt_of_cell? w _ hx240_0)).trans hx240_0
        replace hx240_1:=(HB.out.cell (World.block_lt_of_cell? w _ hx240_1)).trans hx240_1
        replace p240:=eq_true p240
        replace q240:=eq_true q240
        go_wp2_with (first|((with_reducible refine gate_dst (N:=5) rfl ?_);refine box_event ?hg (N:=5) ?hd (cs:=#[.string (⟨#[]⟩:ByteArray),.string (⟨#[]⟩:ByteArray)]) (t:=77) ?hr ?_;(case hd=>rfl);(case hg=>rfl);(case hr=>first|(go_simp;done)|(go_simp;rfl));intro gb241 hg w9 hbox hb;have m0_:=Aside0.mk (blk_below (g:=gm) (o:=sobj Value.string x3_1) (by exact (by (with_reducible repeat (first|exact BKM.out|refine blk_drewN ?_ _|refine blk_drew ?_|refine blk_alloc ?_ _)))) hb);have m1_:=Aside0.mk (show gm≠gb241 from (by rw [hg];exact Nat.ne_of_lt (blk_lt (o:=sobj Value.string x3_1) (by exact (by (with_reducible repeat (first|exact BKM.out|refine blk_drewN ?_ _|refine blk_drew ?_|refine blk_alloc ?_ _)))))));clear BKM;have BKM:=m0_;have NBM_241:=m1_;clear m0_ m1_;have n0_:=Aside0.mk (below_step (by repeat (first|(with_reducible first|exact HB.out|apply below_alloc|apply pw_below_drewN|apply below_drew1)|exact HB.out)) hb);have n1_:=Aside0.mk (hbox);have n2_:=Aside0.mk ((by rw [hg];exact (below_size (by repeat (first|(with_reducible first|exact HB.out|apply below_alloc|apply pw_below_drewN|apply below_drew1)|exact HB.out))):w.heap.size≤gb241));have n3_:=Aside0.mk ((by rw [hg];exact (below_size (by repeat (first|(with_reducible first|exact HB.out|apply below_alloc|apply pw_below_drewN|apply below_drew1)|exact HB.out))):w.heap.size≤gb241));clear HB;have HB:=n0_;have BK241:=n1_;have GW241:=n2_;have GE241:=n3_;clear n0_ n1_ n2_ n3_;clear hb hbox hg;have hcz10_0:w9.cell? ⟨gb241,0,none⟩=some (.string (⟨#[]⟩:ByteArray)):=(blk_cell BK241.out 0).trans rfl;have hcz10_1:w9.cell? ⟨gb241,1,none⟩=some (.string (⟨#[]⟩:ByteArray)):=(blk_cell BK241.out 1).trans rfl;have hfz10_0:=blk_frozen BK241.out 0;have hfz10_1:=blk_frozen BK241.out 1)|(at_lookup;(try (refine gate_guard (by rfl) ?_;dsimp only));refine sget_event (kt:=9) (et:=4) (d:=.string) (ek:=Value.string) (ks:=x3_1) (g:=gm) rfl _ _ rfl rfl (((rd_T77 l0 x9_1).f0)) rfl Tryz.underlying95 Tryz.underlying9 (fun _=>trivial) vstr_inj zero_bool (by (with_reducible repeat (first|exact BKM.out|refine blk_drewN ?_ _|refine blk_drew ?_|refine blk_alloc ?_ _|refine obj_far ?_ NBM_241.out _))) true CM.out ?_))
        go_ret
        exact ⟨by first|rfl|(simp [errW_none,errW_some]<;>rfl)|(simp [*,errW_none,errW_some]<;>rfl),by repeat (first|(with_reducible first|exact HB.out|apply below_alloc|apply pw_below_drewN|apply below_drew1|refine below_set ?_ GE241.out)|exact HB.out)⟩
       ·rw [if_neg c8] at H
        have CM:=Aside0.mk (Bool.eq_false_iff.mpr c8)
        clear c8
        by_cases c11:(0:Nat)≤9223372036854775807
        ·rw [if_pos c11] at H
         clear c11
         have H':=Aside0.mk H
         clear H
         have p240:0≤(x9_1:Int):=of_decide_eq_true (by first|(with_reducible assumption)|assumption)
         have q240:x9_1<(l0.length:Int):=of_decide_eq_true (by first|(with_reducible assumption)|assumption)
         obtain ⟨ad240,e240,hx240_0,hx240_1⟩:=at_T77 HR0.out x9_1 p240 q240
         cases e240
         replace hx240_0:=(HB.out.cell (World.block_lt_of_cell? w _ hx240_0)).trans hx240_0
         replace hx240_1:=(HB.out.cell (World.block_lt_of_cell? w _ hx240_1)).trans hx240_1
         replace p240:=eq_true p240
         replace q240:=eq_true q240
         go_wp2_with (first|((with_reducible refine gate_dst (N:=5) rfl ?_);refine box_event ?hg (N:=5) ?hd (cs:=#[.string (⟨#[]⟩:ByteArray),.string (⟨#[]⟩:ByteArray)]) (t:=77) ?hr ?_;(case hd=>rfl);(case hg=>rfl);(case hr=>first|(go_simp;done)|(go_simp;rfl));intro gb241 hg w12 hbox hb;have m0_:=Aside0.mk (blk_below (g:=gm) (o:=sobj Value.string x3_1) (by exact (by (with_reducible repeat (first|exact BKM.out|refine blk_drewN ?_ _|refine blk_drew ?_|refine blk_alloc ?_ _)))) hb);have m1_:=Aside0.mk (show gm≠gb241 from (by rw [hg];exact Nat.ne_of_lt (blk_lt (o:=sobj Value.string x3_1) (by exact (by (with_reducible repeat (first|exact BKM.out|refine blk_drewN ?_ _|refine blk_drew ?_|refine blk_alloc ?_ _)))))));clear BKM;have BKM:=m0_;have NBM_241:=m1_;clear m0_ m1_;have n0_:=Aside0.mk (below_step (by repeat (first|(with_reducible first|exact HB.out|apply below_alloc|apply pw_below_drewN|apply below_drew1)|exact HB.out)) hb);have n1_:=Aside0.mk (hbox);have n2_:=Aside0.mk ((by rw [hg];exact (below_size (by repeat (first|(with_reducible first|exact HB.out|apply below_alloc|apply pw_below_drewN|apply below_drew1)|exact HB.out))):w.heap.size≤gb241));have n3_:=Aside0.mk ((by rw [hg];exact (below_size (by repeat (first|(with_reducible first|exact HB.out|apply below_alloc|apply pw_below_drewN|apply below_drew1)|exact HB.out))):w.heap.size≤gb241));clear HB;have HB:=n0_;have BK241:=n1_;have GW241:=n2_;have GE241:=n3_;clear n0_ n1_ n2_ n3_;clear hb hbox hg;have hcz13_0:w12.cell? ⟨gb241,0,none⟩=some (.string (⟨#[]⟩:ByteArray)):=(blk_cell BK241.out 0).trans rfl;have hcz13_1:w12.cell? ⟨gb241,1,none⟩=some (.string (⟨#[]⟩:ByteArray)):=(blk_cell BK241.out 1).trans rfl;have hfz13_0:=blk_frozen BK241.out 0;have hfz13_1:=blk_frozen BK241.out 1)|(at_lookup;(try (refine gate_guard (by rfl) ?_;dsimp only));refine sget_event (kt:=9) (et:=4) (d:=.string) (ek:=Value.string) (ks:=x3_1) (g:=gm) rfl _ _ rfl rfl (((rd_T77 l0 x9_1).f0)) rfl Tryz.underlying95 Tryz.underlying9 (fun _=>trivial) vstr_inj zero_bool (by (with_reducible repeat (first|exact BKM.out|refine blk_drewN ?_ _|refine blk_drew ?_|refine blk_alloc ?_ _|refine obj_far ?_ NBM_241.out _))) false CM.out ?_)|(at_mapUpdate;refine sput_event (kt:=9) (et:=4) (d:=.string) (ek:=Value.string) (ks:=x3_1) (g:=gm) rfl _ _ _ rfl rfl rfl (((rd_T77 l0 x9_1).f0)) rfl rfl Tryz.underlying95 Tryz.underlying9 (fun _=>trivial) vstr_inj (by (with_reducible repeat (first|exact BKM.out|refine blk_drewN ?_ _|refine blk_drew ?_|refine blk_alloc ?_ _|refine obj_far ?_ NBM_241.out _))) ?_;intro wP hmap hg;have m0_:=Aside0.mk (show wP.heap[gm]?=some (sobj Value.string ((((rd_T77 l0 x9_1).f0))::x3_1)) from hmap);have m1_:=Aside0.mk (pw_below_grown (by repeat (first|(with_reducible first|exact HB.out|apply below_alloc|apply pw_below_drewN|apply below_drew1|refine below_set ?_ GE241.out)|exact HB.out)) _ (below_size (by repeat (first|(with_reducible first|exact HB.out|apply below_alloc|apply pw_below_drewN|apply below_drew1|refine below_set ?_ GE241.out)|exact HB.out))) hg (fun k hk=>by injection hk with hk;rw [← hk];exact GEM.out));clear BKM HB;have BKM:=m0_;have HB:=m1_;clear m0_ m1_ hmap hg))
         go_roundg k1
         case measure=>have:=HK1.out;omega
         case rel=>exact ⟨(((rd_T77 l0 x9_1).f0)::x3_1),(wrap64 (x9_1+1)),(by first|rfl|(simp;done)|(simp [*];done)),H',⟨by have:=HK1.out;omega⟩,⟨by (with_reducible repeat (first|exact BKM.out|refine blk_drewN ?_ _|refine blk_drew ?_|refine blk_alloc ?_ _))⟩,⟨by repeat (first|(with_reducible first|exact HB.out|apply below_alloc|apply pw_below_drewN|apply below_drew1|refine below_set ?_ GE241.out)|exact HB.out)⟩⟩
        ·rw [if_neg c11] at H
         exact absurd H (by simp)
     ·rw [if_neg c4] at H
      exact absurd H (by simp)
    ·rw [if_neg c3] at H
     exact absurd H (by simp)
   ·rw [if_neg c2] at H
    have c2b0:decide (x9_1<(l0.length:Int))=false:=decide_eq_false c2
    clear c2
    obtain rfl:=Option.some.inj H
    go_wp2
    go_ret
    exact ⟨by first|rfl|(simp [errW_none,errW_some]<;>rfl)|(simp [*,errW_none,errW_some]<;>rfl),by repeat (first|(with_reducible first|exact HB.out|apply below_alloc|apply pw_below_drewN|apply below_drew1)|exact HB.out)⟩
end Go.Proofs.YtjojmfhgfeflnaaGreatDoor.QFnExactWrite
