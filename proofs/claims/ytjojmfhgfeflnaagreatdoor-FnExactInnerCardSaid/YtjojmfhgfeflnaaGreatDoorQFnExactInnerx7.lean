/- Written by a program (wip/tools/own_print.py) out of the walk that the kit's printer made; turned where it fell. -/
-- PRINTED by print.py (a twelfth state) out of the translation. Not trusted: Lean checks it.
import Derived.Test.YtjojmfhgfeflnaaGreatDoorMapObj
import Derived.Test.YtjojmfhgfeflnaaGreatDoorQFnExactInnerx0
import Derived.Test.YtjojmfhgfeflnaaGreatDoorQFnExactInnerx5
namespace Go.Proofs.YtjojmfhgfeflnaaGreatDoor.QFnExactInner
open Go.RowKit Go.Proofs.YtjojmfhgfeflnaaGreatDoorV.PrintWords Go.Proofs.YtjojmfhgfeflnaaGreatDoorV.PrintLast Go.Proofs.YtjojmfhgfeflnaaGreatDoorV.PrintMore
attribute [local go_sem] max2_int min2_int max_two min_two max_three min_three max_four min_four   -- for this text's walks alone
open Go.Proofs.YtjojmfhgfeflnaaGreatDoor.MapObj
set_option linter.unusedVariables false
set_option linter.unusedSimpArgs false
private theorem zero_bool {W:World}:(zeroValue 4).run Tryz.prog W=.ok (.bool false) W:=by kernel_rfl
/-! ### spec_l3Is: function 47 -/
mutual
def spec_l3Is.l0:Nat→ByteArray→ByteArray→Int→Int→Option (Bool)
 |0,_,_,_,_=>none
 |k+1,x0,x1,x5,x6=>if x6≤(x1.size:Int) then (if x6=(x1.size:Int) then (spec_l3Is.j1 k x0 x1 x5 x6 true) else (if 0≤x6 then (if x6<(x1.size:Int) then (spec_l3Is.j1 k x0 x1 x5 x6 ((bt x1 x6)==32)) else (none)) else (none))) else (some false)
def spec_l3Is.j1:Nat→ByteArray→ByteArray→Int→Int→Bool→Option (Bool)
 |0,_,_,_,_,_=>none
 |k+1,x0,x1,x5,x6,x22=>if x22=true then (if x0.toList=([]:List UInt8) then (spec_l3Is.l0 k x0 x1 (wrap64 (x6+1)) (wrap64 (x6+1))) else (if 0≤x5 then (if x5≤x6 then (if x6≤(x1.size:Int) then (if (x1.extract (x5:Int).toNat (x6:Int).toNat).toList=x0.toList then (some true) else (spec_l3Is.l0 k x0 x1 (wrap64 (x6+1)) (wrap64 (x6+1)))) else (none)) else (none)) else (none))) else (spec_l3Is.l0 k x0 x1 x5 (wrap64 (x6+1)))
end
def spec_l3Is.f (k:Nat) (a0:ByteArray) (a1:ByteArray):Option (Bool):=spec_l3Is.l0 k a0 a1 0 0
theorem spec_l3Is.mono_l:∀ k,(∀ y0 y1 y2 y3,LeO (spec_l3Is.l0 k y0 y1 y2 y3) (spec_l3Is.l0 (k+1) y0 y1 y2 y3))∧(∀ y0 y1 y2 y3 y4,LeO (spec_l3Is.j1 k y0 y1 y2 y3 y4) (spec_l3Is.j1 (k+1) y0 y1 y2 y3 y4))
 |0=>⟨fun _ _ _ _ r h=>by simp [spec_l3Is.l0] at h,fun _ _ _ _ _ r h=>by simp [spec_l3Is.j1] at h⟩
 |k+1=>by
  obtain ⟨ih0,ih1⟩:=spec_l3Is.mono_l k
  refine ⟨?_,?_⟩
  ·intro y0 y1 y2 y3
   unfold spec_l3Is.l0
   repeat' first
   |(with_reducible exact ih0 _ _ _ _)
   |(with_reducible exact ih1 _ _ _ _ _)
   |(with_reducible exact LeO.refl _)
   |(with_reducible exact LeO.none _)
   |(with_reducible refine LeO.ite ?_ ?_)
   |(with_reducible refine LeO.bind ?_ (fun _=>?_))
   |exact ih0 _ _ _ _
   |exact ih1 _ _ _ _ _
   |exact LeO.none _
   |refine LeO.ite ?_ ?_
   |refine LeO.bind ?_ (fun _=>?_)
  ·intro y0 y1 y2 y3 y4
   unfold spec_l3Is.j1
   repeat' first
   |(with_reducible exact ih0 _ _ _ _)
   |(with_reducible exact ih1 _ _ _ _ _)
   |(with_reducible exact LeO.refl _)
   |(with_reducible exact LeO.none _)
   |(with_reducible refine LeO.ite ?_ ?_)
   |(with_reducible refine LeO.bind ?_ (fun _=>?_))
   |exact ih0 _ _ _ _
   |exact ih1 _ _ _ _ _
   |exact LeO.none _
   |refine LeO.ite ?_ ?_
   |refine LeO.bind ?_ (fun _=>?_)
theorem spec_l3Is.mono:∀ a0 a1 k,LeO (spec_l3Is.f k a0 a1) (spec_l3Is.f (k+1) a0 a1):=by
 intro a0 a1 k
 obtain ⟨ih0,ih1⟩:=spec_l3Is.mono_l k
 unfold spec_l3Is.f
 repeat' first
   |(with_reducible exact ih0 _ _ _ _)
   |(with_reducible exact ih1 _ _ _ _ _)
   |(with_reducible exact LeO.refl _)
   |(with_reducible exact LeO.none _)
   |(with_reducible refine LeO.ite ?_ ?_)
   |(with_reducible refine LeO.bind ?_ (fun _=>?_))
   |exact ih0 _ _ _ _
   |exact ih1 _ _ _ _ _
   |exact LeO.none _
   |refine LeO.ite ?_ ?_
   |refine LeO.bind ?_ (fun _=>?_)
set_option maxHeartbeats 8000000 in
set_option maxRecDepth 100000 in
theorem spec_l3Is.calls (k:Nat) (a0:ByteArray) (a1:ByteArray) (r:Bool) (w:World) (h:spec_l3Is.f k a0 a1=some r) :
  Calls Tryz.prog 47 #[.string a0,.string a1] w fun e w'=>e=.returned (.bool r)∧Drawn0 w w':=by
 have H:(spec_l3Is.l0 k a0 a1 0 0)=some r:=h
 clear h
 have H':=Aside0.mk H
 clear H
 go_enter Tryz.func47,Tryz.ntmps47
 go_wp2
 go_loopg [5,6] k (fun kq v5 v6 w'=>∃ (x5_1:Int) (x6_1:Int),v5=.int .i64 x5_1∧v6=.int .i64 x6_1∧Aside0 (spec_l3Is.l0 kq a0 a1 x5_1 x6_1=some r)∧Aside0 (kq≤k)∧Drawn0 w w')
 case atStart=>exact ⟨(0),(0),(by first|rfl|(simp;done)|(simp [*];done)),(by first|rfl|(simp;done)|(simp [*];done)),H',⟨Nat.le_refl _⟩,by repeat (first|exact Drawn0.refl _|apply Drawn0.step)⟩
 case round=>
  clear H'
  try clear p2
  obtain ⟨x5_1,x6_1,rfl,rfl,HA,HK1,⟨m1,rfl⟩⟩:=hrel
  cases gk with
  |zero=>exact absurd HA.out (by simp [spec_l3Is.l0])
  |succ k1=>
   have H:=HA.out
   clear HA
   simp only [spec_l3Is.l0] at H
   by_cases c3:x6_1≤(a1.size:Int)
   ·rw [if_pos c3] at H
    have c3b0:decide (x6_1≤(a1.size:Int))=true:=decide_eq_true c3
    clear c3
    have HC4:=Aside0.mk H
    clear H
    go_upto_region 5 with (fail)
    go_cut [22] (fun v22 wc=>∃ (kq:Nat) (x22_3:Bool),v22=.bool x22_3∧Aside0 (spec_l3Is.j1 kq a0 a1 x5_1 x6_1 x22_3=some r)∧Aside0 (kq≤k1)∧Drawn0 w wc)
    case first=>
     have H:=HC4.out
     clear HC4
     by_cases c5:x6_1=(a1.size:Int)
     ·rw [if_pos c5] at H
      have c5b0:(x6_1==(a1.size:Int))=true:=beq_iff_eq.mpr c5
      have c5b1:(x6_1 != (a1.size:Int))=false:=bne_eq_false_iff_eq.mpr c5
      clear c5
      (first|rw [c5b0]|(simp only [i64_w,i32_w];rw [c5b0])|rw [c5b1]|skip)
      have H':=Aside0.mk H
      clear H
      go_wp2
      go_meet
      case rel=>exact ⟨_,(true),(by first|rfl|(simp;done)|(simp [*];done)),H',⟨by have:=HK1.out;first|omega|exact Nat.le_refl _⟩,by repeat (first|exact Drawn0.refl _|apply Drawn0.step)⟩
     ·rw [if_neg c5] at H
      have c5b0:(x6_1==(a1.size:Int))=false:=beq_eq_false_iff_ne.mpr c5
      have c5b1:(x6_1 != (a1.size:Int))=true:=bne_iff_ne.mpr c5
      (first|rw [c5b0]|(simp only [i64_w,i32_w];rw [c5b0])|rw [c5b1]|skip)
      by_cases c6:0≤x6_1
      ·rw [if_pos c6] at H
       have c6b0:decide (0≤x6_1)=true:=decide_eq_true c6
       clear c6
       by_cases c7:x6_1<(a1.size:Int)
       ·rw [if_pos c7] at H
        have c7b0:decide (x6_1<(a1.size:Int))=true:=decide_eq_true c7
        clear c7
        have H':=Aside0.mk H
        clear H
        have p8:0≤(x6_1:Int):=of_decide_eq_true (by first|(with_reducible assumption)|assumption)
        have q8:x6_1<(a1.size:Int):=of_decide_eq_true (by first|(with_reducible assumption)|assumption)
        have hx8:=bt_at a1 x6_1
        replace p8:=eq_true p8
        replace q8:=eq_true q8
        go_wp2
        go_meet
        case rel=>exact ⟨_,(((bt a1 x6_1)==32)),(by first|rfl|(simp;done)|(simp [*];done)),H',⟨by have:=HK1.out;first|omega|exact Nat.le_refl _⟩,by repeat (first|exact Drawn0.refl _|apply Drawn0.step)⟩
       ·rw [if_neg c7] at H
        exact absurd H (by simp)
      ·rw [if_neg c6] at H
       exact absurd H (by simp)
    case rest=>
     clear HC4
     try clear p2
     try clear c3
     try clear c3b0
     try clear c4
     try clear c5
     try clear c5b0
     try clear c5b1
     try clear c6
     try clear c6b0
     try clear c7
     try clear c7b0
     try clear p8
     try clear q8
     try clear hx8
     try clear p2
     try clear p8
     try clear q8
     obtain ⟨kq,x22_3,rfl,HA,HJ3,⟨mc3,rfl⟩⟩:=hcut
     cases kq with
     |zero=>exact absurd HA.out (by simp [spec_l3Is.j1])
     |succ kj3=>
      have H:=HA.out
      clear HA
      simp only [spec_l3Is.j1] at H
      by_cases c9:x22_3=true
      ·subst c9
       have H1:(if a0.toList=([]:List UInt8) then (spec_l3Is.l0 kj3 a0 a1 (wrap64 (x6_1+1)) (wrap64 (x6_1+1))) else (if 0≤x5_1 then (if x5_1≤x6_1 then (if x6_1≤(a1.size:Int) then (if (a1.extract (x5_1:Int).toNat (x6_1:Int).toNat).toList=a0.toList then (some true) else (spec_l3Is.l0 kj3 a0 a1 (wrap64 (x6_1+1)) (wrap64 (x6_1+1)))) else (none)) else (none)) else (none)))=some r:=by rw [if_pos rfl] at H;exact H
       clear H
       have H:=H1
       clear H1
       by_cases c10:a0.toList=([]:List UInt8)
       ·rw [if_pos c10] at H
        have c10b0:(a0.toList==([]:List UInt8))=true:=beq_iff_eq.mpr c10
        have c10b1:(a0.toList != ([]:List UInt8))=false:=bne_eq_false_iff_eq.mpr c10
        clear c10
        have H':=Aside0.mk H
        clear H
        go_wp2
        go_roundg kj3
        case measure=>have:=HK1.out;have:=HJ3.out;omega
        case rel=>exact ⟨(wrap64 (x6_1+1)),(wrap64 (x6_1+1)),(by first|rfl|(simp;done)|(simp [*];done)),(by first|rfl|(simp;done)|(simp [*];done)),H',⟨by have:=HK1.out;have:=HJ3.out;omega⟩,by repeat (first|exact Drawn0.refl _|apply Drawn0.step)⟩
       ·rw [if_neg c10] at H
        have c10b0:(a0.toList==([]:List UInt8))=false:=beq_eq_false_iff_ne.mpr c10
        have c10b1:(a0.toList != ([]:List UInt8))=true:=bne_iff_ne.mpr c10
        by_cases c11:0≤x5_1
        ·rw [if_pos c11] at H
         have c11b0:=eq_true c11
         have c11b1:decide (0≤x5_1)=true:=decide_eq_true c11
         clear c11
         by_cases c12:x5_1≤x6_1
         ·rw [if_pos c12] at H
          have c12b0:=eq_true c12
          have c12b1:decide (x5_1≤x6_1)=true:=decide_eq_true c12
          clear c12
          by_cases c13:x6_1≤(a1.size:Int)
          ·rw [if_pos c13] at H
           have c13b0:=eq_true c13
           have c13b1:decide (x6_1≤(a1.size:Int))=true:=decide_eq_true c13
           clear c13
           by_cases c14:(a1.extract (x5_1:Int).toNat (x6_1:Int).toNat).toList=a0.toList
           ·rw [if_pos c14] at H
            have c14b0:((a1.extract (x5_1:Int).toNat (x6_1:Int).toNat).toList==a0.toList)=true:=beq_iff_eq.mpr c14
            have c14b1:((a1.extract (x5_1:Int).toNat (x6_1:Int).toNat).toList != a0.toList)=false:=bne_eq_false_iff_eq.mpr c14
            clear c14
            obtain rfl:=Option.some.inj H
            go_wp2
            go_ret
            exact ⟨by first|rfl|(simp;done)|(simp [*];done),by repeat (first|exact Drawn0.refl _|apply Drawn0.step)⟩
           ·rw [if_neg c14] at H
            have c14b0:((a1.extract (x5_1:Int).toNat (x6_1:Int).toNat).toList==a0.toList)=false:=beq_eq_false_iff_ne.mpr c14
            have c14b1:((a1.extract (x5_1:Int).toNat (x6_1:Int).toNat).toList != a0.toList)=true:=bne_iff_ne.mpr c14
            have H':=Aside0.mk H
            clear H
            go_wp2
            go_roundg kj3
            case measure=>have:=HK1.out;have:=HJ3.out;omega
            case rel=>exact ⟨(wrap64 (x6_1+1)),(wrap64 (x6_1+1)),(by first|rfl|(simp;done)|(simp [*];done)),(by first|rfl|(simp;done)|(simp [*];done)),H',⟨by have:=HK1.out;have:=HJ3.out;omega⟩,by repeat (first|exact Drawn0.refl _|apply Drawn0.step)⟩
          ·rw [if_neg c13] at H
           exact absurd H (by simp)
         ·rw [if_neg c12] at H
          exact absurd H (by simp)
        ·rw [if_neg c11] at H
         exact absurd H (by simp)
      ·replace c9:=Bool.eq_false_iff.mpr c9
       subst c9
       have H1:(spec_l3Is.l0 kj3 a0 a1 x5_1 (wrap64 (x6_1+1)))=some r:=by rw [if_neg (show ¬ (false=true) by decide)] at H;exact H
       clear H
       have H:=H1
       clear H1
       have H':=Aside0.mk H
       clear H
       go_wp2
       go_roundg kj3
       case measure=>have:=HK1.out;have:=HJ3.out;omega
       case rel=>exact ⟨(x5_1),(wrap64 (x6_1+1)),(by first|rfl|(simp;done)|(simp [*];done)),(by first|rfl|(simp;done)|(simp [*];done)),H',⟨by have:=HK1.out;have:=HJ3.out;omega⟩,by repeat (first|exact Drawn0.refl _|apply Drawn0.step)⟩
   ·rw [if_neg c3] at H
    have c3b0:decide (x6_1≤(a1.size:Int))=false:=decide_eq_false c3
    clear c3
    obtain rfl:=Option.some.inj H
    go_wp2
    go_ret
    exact ⟨by first|rfl|(simp;done)|(simp [*];done),by repeat (first|exact Drawn0.refl _|apply Drawn0.step)⟩
/-! ### spec_l4Void: function 36 -/
def spec_l4Void.f (k:Nat) (a0:ByteArray):Option (Bool):=(spec_l3Is.f k a0 (⟨#[98,114,32,104,114,32,105,109,103,32,105,110,112,117,116,32,109,101,116,97,32,108,105,110,107,32,99,111,108]⟩:ByteArray)).bind fun t216=>(some t216)
theorem spec_l4Void.mono:∀ a0 k,LeO (spec_l4Void.f k a0) (spec_l4Void.f (k+1) a0):=by
 intro a0 k
 unfold spec_l4Void.f
 repeat' first
   |(with_reducible exact spec_l3Is.mono _ _ _)
   |(with_reducible exact LeO.refl _)
   |(with_reducible exact LeO.none _)
   |(with_reducible refine LeO.ite ?_ ?_)
   |(with_reducible refine LeO.bind ?_ (fun _=>?_))
   |exact spec_l3Is.mono _ _ _
   |exact LeO.none _
   |refine LeO.ite ?_ ?_
   |refine LeO.bind ?_ (fun _=>?_)
set_option maxHeartbeats 8000000 in
set_option maxRecDepth 100000 in
theorem spec_l4Void.calls (k:Nat) (a0:ByteArray) (r:Bool) (w:World) (h:spec_l4Void.f k a0=some r) :
  Calls Tryz.prog 36 #[.string a0] w fun e w'=>e=.returned (.bool r)∧Drawn0 w w':=by
 have H:((spec_l3Is.f k a0 (⟨#[98,114,32,104,114,32,105,109,103,32,105,110,112,117,116,32,109,101,116,97,32,108,105,110,107,32,99,111,108]⟩:ByteArray)).bind fun t216=>(some t216))=some r:=h
 clear h
 replace H:=Option.bind_eq_some_iff.mp H
 obtain ⟨t216,A20,H⟩:=H
 replace H:(some t216)=some r:=H
 have A2:=Aside0.mk A20
 clear A20
 obtain rfl:=Option.some.inj H
 go_enter Tryz.func36,Tryz.ntmps36
 go_wp2_with (first|((with_reducible refine gate_callee (f:=47) rfl ?_);refine goesL_ (some 4) rfl rfl Tryz.func47 (by kernel_rfl) rfl #[.string a0,.string (⟨#[98,114,32,104,114,32,105,109,103,32,105,110,112,117,116,32,109,101,116,97,32,108,105,110,107,32,99,111,108]⟩:ByteArray)] rfl (by (try simp only [List.map_toArray,List.map_cons,List.map_nil]);first|done|rfl|(simp only [List.length_drop,List.length_take];rfl)) ?_;(with_reducible refine (spec_l3Is.calls k a0 (⟨#[98,114,32,104,114,32,105,109,103,32,105,110,112,117,116,32,109,101,116,97,32,108,105,110,107,32,99,111,108]⟩:ByteArray) t216 _ A2.out).mono ?_);rintro e w' ⟨rfl,⟨nd,rfl⟩⟩;refine ⟨_,rfl,?_⟩))
 go_ret
 exact ⟨by first|rfl|(simp;done)|(simp [*];done),by repeat (first|exact Drawn0.refl _|apply Drawn0.step)⟩
/-! ### spec_l4At: function 21 -/
def spec_l4At.l0:Nat→Int→Int→List (S57)→Option (Int)
 |0,_,_,_=>none
 |k+1,x1,x5,x250000=>if x5<(x250000.length:Int) then (if 0≤x5 then (if ((rd_T57 x250000 x5).f0)=x1 then (some x5) else (spec_l4At.l0 k x1 (wrap64 (x5+1)) x250000)) else (none)) else (some (-1))
def spec_l4At.f (k:Nat) (l0_0:List (S57)) (a1:Int):Option (Int):=spec_l4At.l0 k a1 0 l0_0
theorem spec_l4At.mono_l:∀ k,(∀ y0 y1 y2,LeO (spec_l4At.l0 k y0 y1 y2) (spec_l4At.l0 (k+1) y0 y1 y2))
 |0=>fun _ _ _ r h=>by simp [spec_l4At.l0] at h
 |k+1=>by
  have ih0:=spec_l4At.mono_l k
  ·intro y0 y1 y2
   unfold spec_l4At.l0
   repeat' first
   |(with_reducible exact ih0 _ _ _)
   |(with_reducible exact LeO.refl _)
   |(with_reducible exact LeO.none _)
   |(with_reducible refine LeO.ite ?_ ?_)
   |(with_reducible refine LeO.bind ?_ (fun _=>?_))
   |exact ih0 _ _ _
   |exact LeO.none _
   |refine LeO.ite ?_ ?_
   |refine LeO.bind ?_ (fun _=>?_)
theorem spec_l4At.mono:∀ a0 a1 k,LeO (spec_l4At.f k a0 a1) (spec_l4At.f (k+1) a0 a1):=by
 intro a0 a1 k
 have ih0:=spec_l4At.mono_l k
 unfold spec_l4At.f
 repeat' first
   |(with_reducible exact ih0 _ _ _)
   |(with_reducible exact LeO.refl _)
   |(with_reducible exact LeO.none _)
   |(with_reducible refine LeO.ite ?_ ?_)
   |(with_reducible refine LeO.bind ?_ (fun _=>?_))
   |exact ih0 _ _ _
   |exact LeO.none _
   |refine LeO.ite ?_ ?_
   |refine LeO.bind ?_ (fun _=>?_)
set_option maxHeartbeats 8000000 in
set_option maxRecDepth 100000 in
theorem spec_l4At.calls (k:Nat) (A0_0:Option Addr) (c0_0:Nat) (l0_0:List (S57)) (a1:Int) (r:Int) (w:World) (hr0_0:Kd.C k57 w A0_0 l0_0.length l0_0) (hc0_0:l0_0.length≤c0_0) (h:spec_l4At.f k l0_0 a1=some r) :
  Calls Tryz.prog 21 #[.agg #[.slice A0_0 l0_0.length c0_0],.int .i64 a1] w fun e w'=>e=.returned (.int .i64 r)∧Below w.heap.size w w':=by
 have hu29:=Tryz.underlying29
 have HR0_0:=Aside0.mk hr0_0
 have HC0_0:=Aside0.mk hc0_0
 clear hr0_0 hc0_0
 have HB:=Aside0.mk (Below.refl w.heap.size w)
 have H:(spec_l4At.l0 k a1 0 l0_0)=some r:=h
 clear h
 have H':=Aside0.mk H
 clear H
 go_enter Tryz.func21,Tryz.ntmps21
 go_wp2_with (first|((with_reducible refine gate_dst (N:=2) rfl ?_);refine box_event ?hg (N:=2) ?hd (cs:=#[.slice A0_0 l0_0.length c0_0]) (t:=29) ?hr ?_;(case hd=>rfl);(case hg=>rfl);(case hr=>first|(go_simp;done)|(go_simp;rfl));intro gb249 hg w3 hbox hb;have n0_:=Aside0.mk (below_step (by repeat (first|(with_reducible first|exact HB.out|apply below_alloc|apply pw_below_drewN|apply below_drew1)|exact HB.out)) hb);have n1_:=Aside0.mk (hbox);have n2_:=Aside0.mk ((by rw [hg];exact (below_size (by repeat (first|(with_reducible first|exact HB.out|apply below_alloc|apply pw_below_drewN|apply below_drew1)|exact HB.out))):w.heap.size≤gb249));have n3_:=Aside0.mk ((by rw [hg];exact (below_size (by repeat (first|(with_reducible first|exact HB.out|apply below_alloc|apply pw_below_drewN|apply below_drew1)|exact HB.out))):w.heap.size≤gb249));clear HB;have HB:=n0_;have BK249:=n1_;have GW249:=n2_;have GE249:=n3_;clear n0_ n1_ n2_ n3_;clear hb hbox hg))
 go_loopg [5] k (fun kq v5 w'=>∃ (x5_1:Int),v5=.int .i64 x5_1∧Aside0 (spec_l4At.l0 kq a1 x5_1 l0_0=some r)∧Aside0 (kq≤k)∧Aside0 (w'.heap[gb249]?=some (.cells #[(.slice A0_0 l0_0.length c0_0)] 29 (0,0)))∧Aside0 (Below w.heap.size w w'))
 case atStart=>exact ⟨(0),(by first|rfl|(simp;done)|(simp [*];done)),H',⟨Nat.le_refl _⟩,⟨by (with_reducible repeat (first|refine blk_drewN ?_ _|refine blk_drew ?_|refine blk_alloc ?_ _));exact BK249.out⟩,⟨by repeat (first|(with_reducible first|exact HB.out|apply below_alloc|apply pw_below_drewN|apply below_drew1|refine below_set ?_ GE249.out)|exact HB.out)⟩⟩
 case round=>
  clear H'
  try clear c2
  try clear p2
  obtain ⟨x5_1,rfl,HA,HK1,BK249,HB⟩:=hrel
  cases gk with
  |zero=>exact absurd HA.out (by simp [spec_l4At.l0])
  |succ k1=>
   have H:=HA.out
   clear HA
   simp only [spec_l4At.l0] at H
   by_cases c4:x5_1<(l0_0.length:Int)
   ·rw [if_pos c4] at H
    have c4b0:decide (x5_1<(l0_0.length:Int))=true:=decide_eq_true c4
    clear c4
    by_cases c5:0≤x5_1
    ·rw [if_pos c5] at H
     have c5b0:decide (0≤x5_1)=true:=decide_eq_true c5
     clear c5
     by_cases c6:((rd_T57 l0_0 x5_1).f0)=a1
     ·rw [if_pos c6] at H
      have c6b0:(((rd_T57 l0_0 x5_1).f0)==a1)=true:=beq_iff_eq.mpr c6
      have c6b1:(((rd_T57 l0_0 x5_1).f0) != a1)=false:=bne_eq_false_iff_eq.mpr c6
      clear c6
      obtain rfl:=Option.some.inj H
      have hcz7_0:wr.cell? ⟨gb249,0,none⟩=some (.slice A0_0 l0_0.length c0_0):=(blk_cell BK249.out 0).trans rfl
      have hfz7_0:=blk_frozen BK249.out 0
      have p250:0≤(x5_1:Int):=of_decide_eq_true (by first|(with_reducible assumption)|assumption)
      have q250:x5_1<(l0_0.length:Int):=of_decide_eq_true (by first|(with_reducible assumption)|assumption)
      obtain ⟨ad250,A250_3,c250_3,e250,hx250_0,hx250_1,hx250_2,hx250_3,hx250_4,hx250_5,hl250_3,hi250_3⟩:=at_T57 HR0_0.out x5_1 p250 q250
      cases e250
      replace hx250_0:=(HB.out.cell (World.block_lt_of_cell? w _ hx250_0)).trans hx250_0
      replace hx250_1:=(HB.out.cell (World.block_lt_of_cell? w _ hx250_1)).trans hx250_1
      replace hx250_2:=(HB.out.cell (World.block_lt_of_cell? w _ hx250_2)).trans hx250_2
      replace hx250_3:=(HB.out.cell (World.block_lt_of_cell? w _ hx250_3)).trans hx250_3
      replace hx250_4:=(HB.out.cell (World.block_lt_of_cell? w _ hx250_4)).trans hx250_4
      replace hx250_5:=(HB.out.cell (World.block_lt_of_cell? w _ hx250_5)).trans hx250_5
      have HR250_3:=Aside0.mk hi250_3
      have HC250_3:=Aside0.mk hl250_3
      clear hi250_3 hl250_3
      replace p250:=eq_true p250
      replace q250:=eq_true q250
      go_wp2
      go_ret
      exact ⟨by first|rfl|(simp [errW_none,errW_some]<;>rfl)|(simp [*,errW_none,errW_some]<;>rfl),by repeat (first|(with_reducible first|exact HB.out|apply below_alloc|apply pw_below_drewN|apply below_drew1|refine below_set ?_ GE249.out)|exact HB.out)⟩
     ·rw [if_neg c6] at H
      have c6b0:(((rd_T57 l0_0 x5_1).f0)==a1)=false:=beq_eq_false_iff_ne.mpr c6
      have c6b1:(((rd_T57 l0_0 x5_1).f0) != a1)=true:=bne_iff_ne.mpr c6
      have H':=Aside0.mk H
      clear H
      have hcz8_0:wr.cell? ⟨gb249,0,none⟩=some (.slice A0_0 l0_0.length c0_0):=(blk_cell BK249.out 0).trans rfl
      have hfz8_0:=blk_frozen BK249.out 0
      have p250:0≤(x5_1:Int):=of_decide_eq_true (by first|(with_reducible assumption)|assumption)
      have q250:x5_1<(l0_0.length:Int):=of_decide_eq_true (by first|(with_reducible assumption)|assumption)
      obtain ⟨ad250,A250_3,c250_3,e250,hx250_0,hx250_1,hx250_2,hx250_3,hx250_4,hx250_5,hl250_3,hi250_3⟩:=at_T57 HR0_0.out x5_1 p250 q250
      cases e250
      replace hx250_0:=(HB.out.cell (World.block_lt_of_cell? w _ hx250_0)).trans hx250_0
      replace hx250_1:=(HB.out.cell (World.block_lt_of_cell? w _ hx250_1)).trans hx250_1
      replace hx250_2:=(HB.out.cell (World.block_lt_of_cell? w _ hx250_2)).trans hx250_2
      replace hx250_3:=(HB.out.cell (World.block_lt_of_cell? w _ hx250_3)).trans hx250_3
      replace hx250_4:=(HB.out.cell (World.block_lt_of_cell? w _ hx250_4)).trans hx250_4
      replace hx250_5:=(HB.out.cell (World.block_lt_of_cell? w _ hx250_5)).trans hx250_5
      have HR250_3:=Aside0.mk hi250_3
      have HC250_3:=Aside0.mk hl250_3
      clear hi250_3 hl250_3
      replace p250:=eq_true p250
      replace q250:=eq_true q250
      go_wp2
      go_roundg k1
      case measure=>have:=HK1.out;omega
      case rel=>exact ⟨(wrap64 (x5_1+1)),(by first|rfl|(simp;done)|(simp [*];done)),H',⟨by have:=HK1.out;omega⟩,⟨by (with_reducible repeat (first|refine blk_drewN ?_ _|refine blk_drew ?_|refine blk_alloc ?_ _));exact BK249.out⟩,⟨by repeat (first|(with_reducible first|exact HB.out|apply below_alloc|apply pw_below_drewN|apply below_drew1|refine below_set ?_ GE249.out)|exact HB.out)⟩⟩
    ·rw [if_neg c5] at H
     exact absurd H (by simp)
   ·rw [if_neg c4] at H
    have c4b0:decide (x5_1<(l0_0.length:Int))=false:=decide_eq_false c4
    clear c4
    obtain rfl:=Option.some.inj H
    have hcz9_0:wr.cell? ⟨gb249,0,none⟩=some (.slice A0_0 l0_0.length c0_0):=(blk_cell BK249.out 0).trans rfl
    have hfz9_0:=blk_frozen BK249.out 0
    go_wp2
    go_ret
    exact ⟨by first|rfl|(simp [errW_none,errW_some]<;>rfl)|(simp [*,errW_none,errW_some]<;>rfl),by repeat (first|(with_reducible first|exact HB.out|apply below_alloc|apply pw_below_drewN|apply below_drew1|refine below_set ?_ GE249.out)|exact HB.out)⟩
/-! ### impl_attrsRight: function 38 -/
def impl_attrsRight.l0:Nat→List ByteArray→List (S77)→Int→Int→Option (Bool)
 |0,_,_,_,_=>none
 |k+1,x3,x7,x8,x9=>if x9<x8 then (if 0≤x9 then (if x9<(x7.length:Int) then (if ((rd_T77 x7 x9).f0).toList=([]:List UInt8) then (some false) else (if smem x3 ((rd_T77 x7 x9).f0)=true then (some false) else (if (0:Nat)≤9223372036854775807 then (impl_attrsRight.l0 k (((rd_T77 x7 x9).f0)::x3) x7 x8 (wrap64 (x9+1))) else (none)))) else (none)) else (none)) else (some true)
def impl_attrsRight.f (k:Nat) (l0:List (S77)):Option (Bool):=impl_attrsRight.l0 k ([]:List ByteArray) l0 (l0.length:Int) 0
theorem impl_attrsRight.mono_l:∀ k,(∀ y0 y1 y2 y3,LeO (impl_attrsRight.l0 k y0 y1 y2 y3) (impl_attrsRight.l0 (k+1) y0 y1 y2 y3))
 |0=>fun _ _ _ _ r h=>by simp [impl_attrsRight.l0] at h
 |k+1=>by
  have ih0:=impl_attrsRight.mono_l k
  ·intro y0 y1 y2 y3
   unfold impl_attrsRight.l0
   repeat' first
   |(with_reducible exact ih0 _ _ _ _)
   |(with_reducible exact LeO.refl _)
   |(with_reducible exact LeO.none _)
   |(with_reducible refine LeO.ite ?_ ?_)
   |(with_reducible refine LeO.bind ?_ (fun _=>?_))
   |exact ih0 _ _ _ _
   |exact LeO.none _
   |refine LeO.ite ?_ ?_
   |refine LeO.bind ?_ (fun _=>?_)
theorem impl_attrsRight.mono:∀ a0 k,LeO (impl_attrsRight.f k a0) (impl_attrsRight.f (k+1) a0):=by
 intro a0 k
 have ih0:=impl_attrsRight.mono_l k
 unfold impl_attrsRight.f
 repeat' first
   |(with_reducible exact ih0 _ _ _ _)
   |(with_reducible exact LeO.refl _)
   |(with_reducible exact LeO.none _)
   |(with_reducible refine LeO.ite ?_ ?_)
   |(with_reducible refine LeO.bind ?_ (fun _=>?_))
   |exact ih0 _ _ _ _
   |exact LeO.none _
   |refine LeO.ite ?_ ?_
   |refine LeO.bind ?_ (fun _=>?_)
set_option maxHeartbeats 8000000 in
set_option maxRecDepth 100000 in
theorem impl_attrsRight.calls (k:Nat) (A0:Option Addr) (c0:Nat) (l0:List (S77)) (r:Bool) (w:World) (hr0:Kd.C k77 w A0 l0.length l0) (hc0:l0.length≤c0) (h:impl_attrsRight.f k l0=some r) :
  Calls Tryz.prog 38 #[.slice A0 l0.length c0] w fun e w'=>e=.returned (.bool r)∧Below w.heap.size w w':=by
 have hu77:=Tryz.underlying77
 have HR0:=Aside0.mk hr0
 have HC0:=Aside0.mk hc0
 clear hr0 hc0
 have HB:=Aside0.mk (Below.refl w.heap.size w)
 have H:(impl_attrsRight.l0 k ([]:List ByteArray) l0 (l0.length:Int) 0)=some r:=h
 clear h
 have H':=Aside0.mk H
 clear H
 have hmm:=@run_makeMap Tryz.prog
 go_enter Tryz.func38,Tryz.ntmps38
 go_wp2_with (first|((with_reducible refine gate_dst (N:=6) rfl ?_);refine make_event ?hg (N:=6) ?hd ?hr ?_;(case hd=>rfl);(case hg=>rfl);(case hr=>first|(go_simp;done)|(go_simp;rfl));intro gm hg wM hbox hb;have n0_:=Aside0.mk (below_step (by repeat (first|(with_reducible first|exact HB.out|apply below_alloc|apply pw_below_drewN|apply below_drew1)|exact HB.out)) hb);have n1_:=Aside0.mk (show wM.heap[gm]?=some (sobj Value.string []) from hbox);have n2_:=Aside0.mk ((by rw [hg];exact (below_size (by repeat (first|(with_reducible first|exact HB.out|apply below_alloc|apply pw_below_drewN|apply below_drew1)|exact HB.out)))):w.heap.size≤gm);clear HB;have HB:=n0_;have BKM:=n1_;have GEM:=n2_;clear n0_ n1_ n2_;clear hb hbox hg))
 clear hmm
 go_loopg [9] k (fun kq v9 w'=>∃ (x3_1:List ByteArray) (x9_1:Int),v9=.int .i64 x9_1∧Aside0 (impl_attrsRight.l0 kq x3_1 l0 (l0.length:Int) x9_1=some r)∧Aside0 (kq≤k)∧Aside0 (w'.heap[gm]?=some (sobj Value.string x3_1))∧Aside0 (Below w.heap.size w w'))
 case atStart=>exact ⟨(([]:List ByteArray)),(0),(by first|rfl|(simp;done)|(simp [*];done)),H',⟨Nat.le_refl _⟩,⟨by (with_reducible repeat (first|exact BKM.out|refine blk_drewN ?_ _|refine blk_drew ?_|refine blk_alloc ?_ _))⟩,⟨by repeat (first|(with_reducible first|exact HB.out|apply below_alloc|apply pw_below_drewN|apply below_drew1)|exact HB.out)⟩⟩
 case round=>
  clear H'
  obtain ⟨x3_1,x9_1,rfl,HA,HK1,BKM,HB⟩:=hrel
  cases gk with
  |zero=>exact absurd HA.out (by simp [impl_attrsRight.l0])
  |succ k1=>
   have H:=HA.out
   clear HA
   simp only [impl_attrsRight.l0] at H
   by_cases c2:x9_1<(l0.length:Int)
   ·rw [if_pos c2] at H
    have c2b0:decide (x9_1<(l0.length:Int))=true:=decide_eq_true c2
    clear c2
    by_cases c3:0≤x9_1
    ·rw [if_pos c3] at H
     have c3b0:decide (0≤x9_1)=true:=decide_eq_true c3
     clear c3
     by_cases c4:x9_1<(l0.length:Int)
     ·rw [if_pos c4] at H
      have c4b0:decide (x9_1<(l0.length:Int))=true:=decide_eq_true c4
      clear c4
      by_cases c5:((rd_T77 l0 x9_1).f0).toList=([]:List UInt8)
      ·rw [if_pos c5] at H
       have c5b0:(((rd_T77 l0 x9_1).f0).toList==([]:List UInt8))=true:=beq_iff_eq.mpr c5
       have c5b1:(((rd_T77 l0 x9_1).f0).toList != ([]:List UInt8))=false:=bne_eq_false_iff_eq.mpr c5
       clear c5
       obtain rfl:=Option.some.inj H
       have p258:0≤(x9_1:Int):=of_decide_eq_true (by first|(with_reducible assumption)|assumption)
       have q258:x9_1<(l0.length:Int):=of_decide_eq_true (by first|(with_reducible assumption)|assumption)
       obtain ⟨ad258,e258,hx258_0,hx258_1⟩:=at_T77 HR0.out x9_1 p258 q258
       cases e258
       replace hx258_0:=(HB.out.cell (World.block_lt_of_cell? w _ hx258_0)).trans hx258_0
       replace hx258_1:=(HB.out.cell (World.block_lt_of_cell? w _ hx258_1)).trans hx258_1
       replace p258:=eq_true p258
       replace q258:=eq_true q258
       go_wp2_with (first|((with_reducible refine gate_dst (N:=5) rfl ?_);refine box_event ?hg (N:=5) ?hd (cs:=#[.string (⟨#[]⟩:ByteArray),.string (⟨#[]⟩:ByteArray)]) (t:=77) ?hr ?_;(case hd=>rfl);(case hg=>rfl);(case hr=>first|(go_simp;done)|(go_simp;rfl));intro gb259 hg w6 hbox hb;have m0_:=Aside0.mk (blk_below (g:=gm) (o:=sobj Value.string x3_1) (by exact (by (with_reducible repeat (first|exact BKM.out|refine blk_drewN ?_ _|refine blk_drew ?_|refine blk_alloc ?_ _)))) hb);have m1_:=Aside0.mk (show gm≠gb259 from (by rw [hg];exact Nat.ne_of_lt (blk_lt (o:=sobj Value.string x3_1) (by exact (by (with_reducible repeat (first|exact BKM.out|refine blk_drewN ?_ _|refine blk_drew ?_|refine blk_alloc ?_ _)))))));clear BKM;have BKM:=m0_;have NBM_259:=m1_;clear m0_ m1_;have n0_:=Aside0.mk (below_step (by repeat (first|(with_reducible first|exact HB.out|apply below_alloc|apply pw_below_drewN|apply below_drew1)|exact HB.out)) hb);have n1_:=Aside0.mk (hbox);have n2_:=Aside0.mk ((by rw [hg];exact (below_size (by repeat (first|(with_reducible first|exact HB.out|apply below_alloc|apply pw_below_drewN|apply below_drew1)|exact HB.out))):w.heap.size≤gb259));have n3_:=Aside0.mk ((by rw [hg];exact (below_size (by repeat (first|(with_reducible first|exact HB.out|apply below_alloc|apply pw_below_drewN|apply below_drew1)|exact HB.out))):w.heap.size≤gb259));clear HB;have HB:=n0_;have BK259:=n1_;have GW259:=n2_;have GE259:=n3_;clear n0_ n1_ n2_ n3_;clear hb hbox hg;have hcz7_0:w6.cell? ⟨gb259,0,none⟩=some (.string (⟨#[]⟩:ByteArray)):=(blk_cell BK259.out 0).trans rfl;have hcz7_1:w6.cell? ⟨gb259,1,none⟩=some (.string (⟨#[]⟩:ByteArray)):=(blk_cell BK259.out 1).trans rfl;have hfz7_0:=blk_frozen BK259.out 0;have hfz7_1:=blk_frozen BK259.out 1))
       go_ret
       exact ⟨by first|rfl|(simp [errW_none,errW_some]<;>rfl)|(simp [*,errW_none,errW_some]<;>rfl),by repeat (first|(with_reducible first|exact HB.out|apply below_alloc|apply pw_below_drewN|apply below_drew1|refine below_set ?_ GE259.out)|exact HB.out)⟩
      ·rw [if_neg c5] at H
       have c5b0:(((rd_T77 l0 x9_1).f0).toList==([]:List UInt8))=false:=beq_eq_false_iff_ne.mpr c5
       have c5b1:(((rd_T77 l0 x9_1).f0).toList != ([]:List UInt8))=true:=bne_iff_ne.mpr c5
       by_cases c8:smem x3_1 ((rd_T77 l0 x9_1).f0)=true
       ·rw [if_pos c8] at H
        have CM:=Aside0.mk c8
        clear c8
        obtain rfl:=Option.some.inj H
        have p258:0≤(x9_1:Int):=of_decide_eq_true (by first|(with_reducible assumption)|assumption)
        have q258:x9_1<(l0.length:Int):=of_decide_eq_true (by first|(with_reducible assumption)|assumption)
        obtain ⟨ad258,e258,hx258_0,hx258_1⟩:=at_T77 HR0.out x9_1 p258 q258
        cases e258
        replace hx258_0:=(HB.out.cell (World.block_lt_of_cell? w _ hx258_0)).trans hx258_0
        replace hx258_1:=(HB.out.cell (World.block_lt_of_cell? w _ hx258_1)).trans hx258_1
        replace p258:=eq_true p258
        replace q258:=eq_true q258
        go_wp2_with (first|((with_reducible refine gate_dst (N:=5) rfl ?_);refine box_event ?hg (N:=5) ?hd (cs:=#[.string (⟨#[]⟩:ByteArray),.string (⟨#[]⟩:ByteArray)]) (t:=77) ?hr ?_;(case hd=>rfl);(case hg=>rfl);(case hr=>first|(go_simp;done)|(go_simp;rfl));intro gb259 hg w9 hbox hb;have m0_:=Aside0.mk (blk_below (g:=gm) (o:=sobj Value.string x3_1) (by exact (by (with_reducible repeat (first|exact BKM.out|refine blk_drewN ?_ _|refine blk_drew ?_|refine blk_alloc ?_ _)))) hb);have m1_:=Aside0.mk (show gm≠gb259 from (by rw [hg];exact Nat.ne_of_lt (blk_lt (o:=sobj Value.string x3_1) (by exact (by (with_reducible repeat (first|exact BKM.out|refine blk_drewN ?_ _|refine blk_drew ?_|refine blk_alloc ?_ _)))))));clear BKM;have BKM:=m0_;have NBM_259:=m1_;clear m0_ m1_;have n0_:=Aside0.mk (below_step (by repeat (first|(with_reducible first|exact HB.out|apply below_alloc|apply pw_below_drewN|apply below_drew1)|exact HB.out)) hb);have n1_:=Aside0.mk (hbox);have n2_:=Aside0.mk ((by rw [hg];exact (below_size (by repeat (first|(with_reducible first|exact HB.out|apply below_alloc|apply pw_below_drewN|apply below_drew1)|exact HB.out))):w.heap.size≤gb259));have n3_:=Aside0.mk ((by rw [hg];exact (below_size (by repeat (first|(with_reducible first|exact HB.out|apply below_alloc|apply pw_below_drewN|apply below_drew1)|exact HB.out))):w.heap.size≤gb259));clear HB;have HB:=n0_;have BK259:=n1_;have GW259:=n2_;have GE259:=n3_;clear n0_ n1_ n2_ n3_;clear hb hbox hg;have hcz10_0:w9.cell? ⟨gb259,0,none⟩=some (.string (⟨#[]⟩:ByteArray)):=(blk_cell BK259.out 0).trans rfl;have hcz10_1:w9.cell? ⟨gb259,1,none⟩=some (.string (⟨#[]⟩:ByteArray)):=(blk_cell BK259.out 1).trans rfl;have hfz10_0:=blk_frozen BK259.out 0;have hfz10_1:=blk_frozen BK259.out 1)|(at_lookup;(try (refine gate_guard (by rfl) ?_;dsimp only));refine sget_event (kt:=9) (et:=4) (d:=.string) (ek:=Value.string) (ks:=x3_1) (g:=gm) rfl _ _ rfl rfl (((rd_T77 l0 x9_1).f0)) rfl Tryz.underlying95 Tryz.underlying9 (fun _=>trivial) vstr_inj zero_bool (by (with_reducible repeat (first|exact BKM.out|refine blk_drewN ?_ _|refine blk_drew ?_|refine blk_alloc ?_ _|refine obj_far ?_ NBM_259.out _))) true CM.out ?_))
        go_ret
        exact ⟨by first|rfl|(simp [errW_none,errW_some]<;>rfl)|(simp [*,errW_none,errW_some]<;>rfl),by repeat (first|(with_reducible first|exact HB.out|apply below_alloc|apply pw_below_drewN|apply below_drew1|refine below_set ?_ GE259.out)|exact HB.out)⟩
       ·rw [if_neg c8] at H
        have CM:=Aside0.mk (Bool.eq_false_iff.mpr c8)
        clear c8
        by_cases c11:(0:Nat)≤9223372036854775807
        ·rw [if_pos c11] at H
         clear c11
         have H':=Aside0.mk H
         clear H
         have p258:0≤(x9_1:Int):=of_decide_eq_true (by first|(with_reducible assumption)|assumption)
         have q258:x9_1<(l0.length:Int):=of_decide_eq_true (by first|(with_reducible assumption)|assumption)
         obtain ⟨ad258,e258,hx258_0,hx258_1⟩:=at_T77 HR0.out x9_1 p258 q258
         cases e258
         replace hx258_0:=(HB.out.cell (World.block_lt_of_cell? w _ hx258_0)).trans hx258_0
         replace hx258_1:=(HB.out.cell (World.block_lt_of_cell? w _ hx258_1)).trans hx258_1
         replace p258:=eq_true p258
         replace q258:=eq_true q258
         go_wp2_with (first|((with_reducible refine gate_dst (N:=5) rfl ?_);refine box_event ?hg (N:=5) ?hd (cs:=#[.string (⟨#[]⟩:ByteArray),.string (⟨#[]⟩:ByteArray)]) (t:=77) ?hr ?_;(case hd=>rfl);(case hg=>rfl);(case hr=>first|(go_simp;done)|(go_simp;rfl));intro gb259 hg w12 hbox hb;have m0_:=Aside0.mk (blk_below (g:=gm) (o:=sobj Value.string x3_1) (by exact (by (with_reducible repeat (first|exact BKM.out|refine blk_drewN ?_ _|refine blk_drew ?_|refine blk_alloc ?_ _)))) hb);have m1_:=Aside0.mk (show gm≠gb259 from (by rw [hg];exact Nat.ne_of_lt (blk_lt (o:=sobj Value.string x3_1) (by exact (by (with_reducible repeat (first|exact BKM.out|refine blk_drewN ?_ _|refine blk_drew ?_|refine blk_alloc ?_ _)))))));clear BKM;have BKM:=m0_;have NBM_259:=m1_;clear m0_ m1_;have n0_:=Aside0.mk (below_step (by repeat (first|(with_reducible first|exact HB.out|apply below_alloc|apply pw_below_drewN|apply below_drew1)|exact HB.out)) hb);have n1_:=Aside0.mk (hbox);have n2_:=Aside0.mk ((by rw [hg];exact (below_size (by repeat (first|(with_reducible first|exact HB.out|apply below_alloc|apply pw_below_drewN|apply below_drew1)|exact HB.out))):w.heap.size≤gb259));have n3_:=Aside0.mk ((by rw [hg];exact (below_size (by repeat (first|(with_reducible first|exact HB.out|apply below_alloc|apply pw_below_drewN|apply below_drew1)|exact HB.out))):w.heap.size≤gb259));clear HB;have HB:=n0_;have BK259:=n1_;have GW259:=n2_;have GE259:=n3_;clear n0_ n1_ n2_ n3_;clear hb hbox hg;have hcz13_0:w12.cell? ⟨gb259,0,none⟩=some (.string (⟨#[]⟩:ByteArray)):=(blk_cell BK259.out 0).trans rfl;have hcz13_1:w12.cell? ⟨gb259,1,none⟩=some (.string (⟨#[]⟩:ByteArray)):=(blk_cell BK259.out 1).trans rfl;have hfz13_0:=blk_frozen BK259.out 0;have hfz13_1:=blk_frozen BK259.out 1)|(at_lookup;(try (refine gate_guard (by rfl) ?_;dsimp only));refine sget_event (kt:=9) (et:=4) (d:=.string) (ek:=Value.string) (ks:=x3_1) (g:=gm) rfl _ _ rfl rfl (((rd_T77 l0 x9_1).f0)) rfl Tryz.underlying95 Tryz.underlying9 (fun _=>trivial) vstr_inj zero_bool (by (with_reducible repeat (first|exact BKM.out|refine blk_drewN ?_ _|refine blk_drew ?_|refine blk_alloc ?_ _|refine obj_far ?_ NBM_259.out _))) false CM.out ?_)|(at_mapUpdate;refine sput_event (kt:=9) (et:=4) (d:=.string) (ek:=Value.string) (ks:=x3_1) (g:=gm) rfl _ _ _ rfl rfl rfl (((rd_T77 l0 x9_1).f0)) rfl rfl Tryz.underlying95 Tryz.underlying9 (fun _=>trivial) vstr_inj (by (with_reducible repeat (first|exact BKM.out|refine blk_drewN ?_ _|refine blk_drew ?_|refine blk_alloc ?_ _|refine obj_far ?_ NBM_259.out _))) ?_;intro wP hmap hg;have m0_:=Aside0.mk (show wP.heap[gm]?=some (sobj Value.string ((((rd_T77 l0 x9_1).f0))::x3_1)) from hmap);have m1_:=Aside0.mk (pw_below_grown (by repeat (first|(with_reducible first|exact HB.out|apply below_alloc|apply pw_below_drewN|apply below_drew1|refine below_set ?_ GE259.out)|exact HB.out)) _ (below_size (by repeat (first|(with_reducible first|exact HB.out|apply below_alloc|apply pw_below_drewN|apply below_drew1|refine below_set ?_ GE259.out)|exact HB.out))) hg (fun k hk=>by injection hk with hk;rw [← hk];exact GEM.out));clear BKM HB;have BKM:=m0_;have HB:=m1_;clear m0_ m1_ hmap hg))
         go_roundg k1
         case measure=>have:=HK1.out;omega
         case rel=>exact ⟨(((rd_T77 l0 x9_1).f0)::x3_1),(wrap64 (x9_1+1)),(by first|rfl|(simp;done)|(simp [*];done)),H',⟨by have:=HK1.out;omega⟩,⟨by (with_reducible repeat (first|exact BKM.out|refine blk_drewN ?_ _|refine blk_drew ?_|refine blk_alloc ?_ _))⟩,⟨by repeat (first|(with_reducible first|exact HB.out|apply below_alloc|apply pw_below_drewN|apply below_drew1|refine below_set ?_ GE259.out)|exact HB.out)⟩⟩
        ·rw [if_neg c11] at H
         exact absurd H (by simp)
     ·rw [if_neg c4] at H
      exact absurd H (by simp)
    ·rw [if_neg c3] at H
     exact absurd H (by simp)
   ·rw [if_neg c2] at H
    have c2b0:decide (x9_1<(l0.length:Int))=false:=decide_eq_false c2
    clear c2
    obtain rfl:=Option.some.inj H
    go_wp2
    go_ret
    exact ⟨by first|rfl|(simp [errW_none,errW_some]<;>rfl)|(simp [*,errW_none,errW_some]<;>rfl),by repeat (first|(with_reducible first|exact HB.out|apply below_alloc|apply pw_below_drewN|apply below_drew1)|exact HB.out)⟩
end Go.Proofs.YtjojmfhgfeflnaaGreatDoor.QFnExactInner
