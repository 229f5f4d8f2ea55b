/- Written by a program (wip/tools/own_print.py) out of the walk that the kit's printer made; turned where it fell. -/
-- PRINTED by print.py (a twelfth state) out of the translation. Not trusted: Lean checks it.
import Derived.Test.YtjojmfhgfeflnaaGreatDoorQFnExactInnerx0
namespace Go.Proofs.YtjojmfhgfeflnaaGreatDoor.QFnExactInner
open Go.RowKit Go.Proofs.YtjojmfhgfeflnaaGreatDoorV.PrintWords Go.Proofs.YtjojmfhgfeflnaaGreatDoorV.PrintLast Go.Proofs.YtjojmfhgfeflnaaGreatDoorV.PrintMore
attribute [local go_sem] max2_int min2_int max_two min_two max_three min_three max_four min_four   -- for this text's walks alone
set_option linter.unusedVariables false
set_option linter.unusedSimpArgs false
/-! ### spec_RawKind: function 33 -/
def spec_RawKind.j0:Nat→ByteArray→Bool→Option (Int)
 |0,_,_=>none
 |k+1,x3,x4=>if x4=true then (some 1) else (if x3.toList=([116,105,116,108,101]:List UInt8) then (some 2) else (if x3.toList=([116,101,120,116,97,114,101,97]:List UInt8) then (some 2) else (some 0)))
def spec_RawKind.f (k:Nat) (a0:ByteArray):Option (Int):=if a0.toList=([115,116,121,108,101]:List UInt8) then (spec_RawKind.j0 k a0 (a0.toList==([115,116,121,108,101]:List UInt8))) else (spec_RawKind.j0 k a0 (a0.toList==([115,99,114,105,112,116]:List UInt8)))
theorem spec_RawKind.mono_l:∀ k,(∀ y0 y1,LeO (spec_RawKind.j0 k y0 y1) (spec_RawKind.j0 (k+1) y0 y1))
 |0=>fun _ _ r h=>by simp [spec_RawKind.j0] at h
 |k+1=>by
  have ih0:=spec_RawKind.mono_l k
  ·intro y0 y1
   unfold spec_RawKind.j0
   repeat' first
   |(with_reducible exact ih0 _ _)
   |(with_reducible exact LeO.refl _)
   |(with_reducible exact LeO.none _)
   |(with_reducible refine LeO.ite ?_ ?_)
   |(with_reducible refine LeO.bind ?_ (fun _=>?_))
   |exact ih0 _ _
   |exact LeO.none _
   |refine LeO.ite ?_ ?_
   |refine LeO.bind ?_ (fun _=>?_)
theorem spec_RawKind.mono:∀ a0 k,LeO (spec_RawKind.f k a0) (spec_RawKind.f (k+1) a0):=by
 intro a0 k
 have ih0:=spec_RawKind.mono_l k
 unfold spec_RawKind.f
 repeat' first
   |(with_reducible exact ih0 _ _)
   |(with_reducible exact LeO.refl _)
   |(with_reducible exact LeO.none _)
   |(with_reducible refine LeO.ite ?_ ?_)
   |(with_reducible refine LeO.bind ?_ (fun _=>?_))
   |exact ih0 _ _
   |exact LeO.none _
   |refine LeO.ite ?_ ?_
   |refine LeO.bind ?_ (fun _=>?_)
set_option maxHeartbeats 8000000 in
set_option maxRecDepth 100000 in
theorem spec_RawKind.calls (k:Nat) (a0:ByteArray) (r:Int) (w:World) (h:spec_RawKind.f k a0=some r) :
  Calls Tryz.prog 33 #[.string a0] w fun e w'=>e=.returned (.int .i64 r)∧Drawn0 w w':=by
 have H:(if a0.toList=([115,116,121,108,101]:List UInt8) then (spec_RawKind.j0 k a0 (a0.toList==([115,116,121,108,101]:List UInt8))) else (spec_RawKind.j0 k a0 (a0.toList==([115,99,114,105,112,116]:List UInt8))))=some r:=h
 clear h
 have HC2:=Aside0.mk H
 clear H
 go_enter Tryz.func33,Tryz.ntmps33
 go_upto_if 4 with (fail)
 go_cut [4] (fun v4 wc=>∃ (kq:Nat) (x4_1:Bool),v4=.bool x4_1∧Aside0 (spec_RawKind.j0 kq a0 x4_1=some r)∧Aside0 (kq≤k)∧Drawn0 w wc)
 case first=>
  have H:=HC2.out
  clear HC2
  by_cases c3:a0.toList=([115,116,121,108,101]:List UInt8)
  ·rw [if_pos c3] at H
   have c3b0:(a0.toList==([115,116,121,108,101]:List UInt8))=true:=beq_iff_eq.mpr c3
   have c3b1:(a0.toList != ([115,116,121,108,101]:List UInt8))=false:=bne_eq_false_iff_eq.mpr c3
   clear c3
   (first|rw [c3b0]|(simp only [i64_w,i32_w];rw [c3b0])|rw [c3b1]|skip)
   have H':=Aside0.mk H
   clear H
   go_wp2
   go_meet
   case rel=>exact ⟨_,((a0.toList==([115,116,121,108,101]:List UInt8))),(by first|rfl|(simp;done)|(simp [*];done)),H',⟨by first|omega|exact Nat.le_refl _⟩,by repeat (first|exact Drawn0.refl _|apply Drawn0.step)⟩
  ·rw [if_neg c3] at H
   have c3b0:(a0.toList==([115,116,121,108,101]:List UInt8))=false:=beq_eq_false_iff_ne.mpr c3
   have c3b1:(a0.toList != ([115,116,121,108,101]:List UInt8))=true:=bne_iff_ne.mpr c3
   (first|rw [c3b0]|(simp only [i64_w,i32_w];rw [c3b0])|rw [c3b1]|skip)
   have H':=Aside0.mk H
   clear H
   go_wp2
   go_meet
   case rel=>exact ⟨_,((a0.toList==([115,99,114,105,112,116]:List UInt8))),(by first|rfl|(simp;done)|(simp [*];done)),H',⟨by first|omega|exact Nat.le_refl _⟩,by repeat (first|exact Drawn0.refl _|apply Drawn0.step)⟩
 case rest=>
  clear HC2
  try clear p2
  try clear c3
  try clear c3b0
  try clear c3b1
  obtain ⟨kq,x4_1,rfl,HA,HJ1,⟨mc1,rfl⟩⟩:=hcut
  cases kq with
  |zero=>exact absurd HA.out (by simp [spec_RawKind.j0])
  |succ kj1=>
   have H:=HA.out
   clear HA
   simp only [spec_RawKind.j0] at H
   by_cases c4:x4_1=true
   ·subst c4
    have H1:(some 1)=some r:=by rw [if_pos rfl] at H;exact H
    clear H
    have H:=H1
    clear H1
    obtain rfl:=Option.some.inj H
    go_wp2
    go_ret
    exact ⟨by first|rfl|(simp;done)|(simp [*];done),by repeat (first|exact Drawn0.refl _|apply Drawn0.step)⟩
   ·replace c4:=Bool.eq_false_iff.mpr c4
    subst c4
    have H1:(if a0.toList=([116,105,116,108,101]:List UInt8) then (some 2) else (if a0.toList=([116,101,120,116,97,114,101,97]:List UInt8) then (some 2) else (some 0)))=some r:=by rw [if_neg (show ¬ (false=true) by decide)] at H;exact H
    clear H
    have H:=H1
    clear H1
    by_cases c5:a0.toList=([116,105,116,108,101]:List UInt8)
    ·rw [if_pos c5] at H
     have c5b0:(a0.toList==([116,105,116,108,101]:List UInt8))=true:=beq_iff_eq.mpr c5
     have c5b1:(a0.toList != ([116,105,116,108,101]:List UInt8))=false:=bne_eq_false_iff_eq.mpr c5
     clear c5
     obtain rfl:=Option.some.inj H
     go_wp2
     go_ret
     exact ⟨by first|rfl|(simp;done)|(simp [*];done),by repeat (first|exact Drawn0.refl _|apply Drawn0.step)⟩
    ·rw [if_neg c5] at H
     have c5b0:(a0.toList==([116,105,116,108,101]:List UInt8))=false:=beq_eq_false_iff_ne.mpr c5
     have c5b1:(a0.toList != ([116,105,116,108,101]:List UInt8))=true:=bne_iff_ne.mpr c5
     by_cases c6:a0.toList=([116,101,120,116,97,114,101,97]:List UInt8)
     ·rw [if_pos c6] at H
      have c6b0:(a0.toList==([116,101,120,116,97,114,101,97]:List UInt8))=true:=beq_iff_eq.mpr c6
      have c6b1:(a0.toList != ([116,101,120,116,97,114,101,97]:List UInt8))=false:=bne_eq_false_iff_eq.mpr c6
      clear c6
      obtain rfl:=Option.some.inj H
      go_wp2
      go_ret
      exact ⟨by first|rfl|(simp;done)|(simp [*];done),by repeat (first|exact Drawn0.refl _|apply Drawn0.step)⟩
     ·rw [if_neg c6] at H
      have c6b0:(a0.toList==([116,101,120,116,97,114,101,97]:List UInt8))=false:=beq_eq_false_iff_ne.mpr c6
      have c6b1:(a0.toList != ([116,101,120,116,97,114,101,97]:List UInt8))=true:=bne_iff_ne.mpr c6
      obtain rfl:=Option.some.inj H
      go_wp2
      go_ret
      exact ⟨by first|rfl|(simp;done)|(simp [*];done),by repeat (first|exact Drawn0.refl _|apply Drawn0.step)⟩
/-! ### spec_l4Escape: function 46 -/
mutual
def spec_l4Escape.l0:Nat→ByteArray→Bool→List Int→Int→Option (ByteArray)
 |0,_,_,_,_=>none
 |k+1,x0,x1,x5,x6=>if x6<(x0.size:Int) then (if 0≤x6 then (if (bt x0 x6)=38 then (if x5.length+5<140737488355328 then (spec_l4Escape.l0 k x0 x1 (x5++bytesOf (⟨#[38,97,109,112,59]⟩:ByteArray)) (wrap64 (x6+1))) else (none)) else (if (bt x0 x6)=194 then (if (wrap64 (x6+1))<(x0.size:Int) then (if 0≤(wrap64 (x6+1)) then (spec_l4Escape.j1 k x0 x1 x5 x6 (bt x0 x6) ((bt x0 (wrap64 (x6+1)))==160)) else (none)) else (spec_l4Escape.j1 k x0 x1 x5 x6 (bt x0 x6) false)) else (spec_l4Escape.j1 k x0 x1 x5 x6 (bt x0 x6) false))) else (none)) else (some (strOfNums x5))
def spec_l4Escape.j1:Nat→ByteArray→Bool→List Int→Int→Int→Bool→Option (ByteArray)
 |0,_,_,_,_,_,_=>none
 |k+1,x0,x1,x5,x6,x7,x37=>if x37=true then (if x5.length+6<140737488355328 then (spec_l4Escape.l0 k x0 x1 (x5++bytesOf (⟨#[38,110,98,115,112,59]⟩:ByteArray)) (wrap64 ((wrap64 (x6+1))+1))) else (none)) else (if x7=60 then (spec_l4Escape.j2 k x0 x1 x5 x6 x7 (!x1)) else (spec_l4Escape.j2 k x0 x1 x5 x6 x7 false))
def spec_l4Escape.j2:Nat→ByteArray→Bool→List Int→Int→Int→Bool→Option (ByteArray)
 |0,_,_,_,_,_,_=>none
 |k+1,x0,x1,x5,x6,x7,x47=>if x47=true then (if x5.length+4<140737488355328 then (spec_l4Escape.l0 k x0 x1 (x5++bytesOf (⟨#[38,108,116,59]⟩:ByteArray)) (wrap64 (x6+1))) else (none)) else (if x7=62 then (spec_l4Escape.j3 k x0 x1 x5 x6 x7 (!x1)) else (spec_l4Escape.j3 k x0 x1 x5 x6 x7 false))
def spec_l4Escape.j3:Nat→ByteArray→Bool→List Int→Int→Int→Bool→Option (ByteArray)
 |0,_,_,_,_,_,_=>none
 |k+1,x0,x1,x5,x6,x7,x55=>if x55=true then (if x5.length+4<140737488355328 then (spec_l4Escape.l0 k x0 x1 (x5++bytesOf (⟨#[38,103,116,59]⟩:ByteArray)) (wrap64 (x6+1))) else (none)) else (if x7=34 then (if x1=true then (if x5.length+6<140737488355328 then (spec_l4Escape.l0 k x0 x1 (x5++bytesOf (⟨#[38,113,117,111,116,59]⟩:ByteArray)) (wrap64 (x6+1))) else (none)) else (if x5.length<140737488355328 then (spec_l4Escape.l0 k x0 x1 (x5++[x7]) (wrap64 (x6+1))) else (none))) else (if x5.length<140737488355328 then (spec_l4Escape.l0 k x0 x1 (x5++[x7]) (wrap64 (x6+1))) else (none)))
end
def spec_l4Escape.f (k:Nat) (a0:ByteArray) (a1:Bool):Option (ByteArray):=spec_l4Escape.l0 k a0 a1 (([]:List Int)) 0
theorem spec_l4Escape.mono_l:∀ k,(∀ y0 y1 y2 y3,LeO (spec_l4Escape.l0 k y0 y1 y2 y3) (spec_l4Escape.l0 (k+1) y0 y1 y2 y3))∧(∀ y0 y1 y2 y3 y4 y5,LeO (spec_l4Escape.j1 k y0 y1 y2 y3 y4 y5) (spec_l4Escape.j1 (k+1) y0 y1 y2 y3 y4 y5))∧(∀ y0 y1 y2 y3 y4 y5,LeO (spec_l4Escape.j2 k y0 y1 y2 y3 y4 y5) (spec_l4Escape.j2 (k+1) y0 y1 y2 y3 y4 y5))∧(∀ y0 y1 y2 y3 y4 y5,LeO (spec_l4Escape.j3 k y0 y1 y2 y3 y4 y5) (spec_l4Escape.j3 (k+1) y0 y1 y2 y3 y4 y5))
 |0=>⟨fun _ _ _ _ r h=>by simp [spec_l4Escape.l0] at h,fun _ _ _ _ _ _ r h=>by simp [spec_l4Escape.j1] at h,fun _ _ _ _ _ _ r h=>by simp [spec_l4Escape.j2] at h,fun _ _ _ _ _ _ r h=>by simp [spec_l4Escape.j3] at h⟩
 |k+1=>by
  obtain ⟨ih0,ih1,ih2,ih3⟩:=spec_l4Escape.mono_l k
  refine ⟨?_,?_,?_,?_⟩
  ·intro y0 y1 y2 y3
   unfold spec_l4Escape.l0
   repeat' first
   |(with_reducible exact ih0 _ _ _ _)
   |(with_reducible exact ih1 _ _ _ _ _ _)
   |(with_reducible exact ih2 _ _ _ _ _ _)
   |(with_reducible exact ih3 _ _ _ _ _ _)
   |(with_reducible exact LeO.refl _)
   |(with_reducible exact LeO.none _)
   |(with_reducible refine LeO.ite ?_ ?_)
   |(with_reducible refine LeO.bind ?_ (fun _=>?_))
   |exact ih0 _ _ _ _
   |exact ih1 _ _ _ _ _ _
   |exact ih2 _ _ _ _ _ _
   |exact ih3 _ _ _ _ _ _
   |exact LeO.none _
   |refine LeO.ite ?_ ?_
   |refine LeO.bind ?_ (fun _=>?_)
  ·intro y0 y1 y2 y3 y4 y5
   unfold spec_l4Escape.j1
   repeat' first
   |(with_reducible exact ih0 _ _ _ _)
   |(with_reducible exact ih1 _ _ _ _ _ _)
   |(with_reducible exact ih2 _ _ _ _ _ _)
   |(with_reducible exact ih3 _ _ _ _ _ _)
   |(with_reducible exact LeO.refl _)
   |(with_reducible exact LeO.none _)
   |(with_reducible refine LeO.ite ?_ ?_)
   |(with_reducible refine LeO.bind ?_ (fun _=>?_))
   |exact ih0 _ _ _ _
   |exact ih1 _ _ _ _ _ _
   |exact ih2 _ _ _ _ _ _
   |exact ih3 _ _ _ _ _ _
   |exact LeO.none _
   |refine LeO.ite ?_ ?_
   |refine LeO.bind ?_ (fun _=>?_)
  ·intro y0 y1 y2 y3 y4 y5
   unfold spec_l4Escape.j2
   repeat' first
   |(with_reducible exact ih0 _ _ _ _)
   |(with_reducible exact ih1 _ _ _ _ _ _)
   |(with_reducible exact ih2 _ _ _ _ _ _)
   |(with_reducible exact ih3 _ _ _ _ _ _)
   |(with_reducible exact LeO.refl _)
   |(with_reducible exact LeO.none _)
   |(with_reducible refine LeO.ite ?_ ?_)
   |(with_reducible refine LeO.bind ?_ (fun _=>?_))
   |exact ih0 _ _ _ _
   |exact ih1 _ _ _ _ _ _
   |exact ih2 _ _ _ _ _ _
   |exact ih3 _ _ _ _ _ _
   |exact LeO.none _
   |refine LeO.ite ?_ ?_
   |refine LeO.bind ?_ (fun _=>?_)
  ·intro y0 y1 y2 y3 y4 y5
   unfold spec_l4Escape.j3
   repeat' first
   |(with_reducible exact ih0 _ _ _ _)
   |(with_reducible exact ih1 _ _ _ _ _ _)
   |(with_reducible exact ih2 _ _ _ _ _ _)
   |(with_reducible exact ih3 _ _ _ _ _ _)
   |(with_reducible exact LeO.refl _)
   |(with_reducible exact LeO.none _)
   |(with_reducible refine LeO.ite ?_ ?_)
   |(with_reducible refine LeO.bind ?_ (fun _=>?_))
   |exact ih0 _ _ _ _
   |exact ih1 _ _ _ _ _ _
   |exact ih2 _ _ _ _ _ _
   |exact ih3 _ _ _ _ _ _
   |exact LeO.none _
   |refine LeO.ite ?_ ?_
   |refine LeO.bind ?_ (fun _=>?_)
theorem spec_l4Escape.mono:∀ a0 a1 k,LeO (spec_l4Escape.f k a0 a1) (spec_l4Escape.f (k+1) a0 a1):=by
 intro a0 a1 k
 obtain ⟨ih0,ih1,ih2,ih3⟩:=spec_l4Escape.mono_l k
 unfold spec_l4Escape.f
 repeat' first
   |(with_reducible exact ih0 _ _ _ _)
   |(with_reducible exact ih1 _ _ _ _ _ _)
   |(with_reducible exact ih2 _ _ _ _ _ _)
   |(with_reducible exact ih3 _ _ _ _ _ _)
   |(with_reducible exact LeO.refl _)
   |(with_reducible exact LeO.none _)
   |(with_reducible refine LeO.ite ?_ ?_)
   |(with_reducible refine LeO.bind ?_ (fun _=>?_))
   |exact ih0 _ _ _ _
   |exact ih1 _ _ _ _ _ _
   |exact ih2 _ _ _ _ _ _
   |exact ih3 _ _ _ _ _ _
   |exact LeO.none _
   |refine LeO.ite ?_ ?_
   |refine LeO.bind ?_ (fun _=>?_)
set_option maxHeartbeats 8000000 in
set_option maxRecDepth 100000 in
theorem spec_l4Escape.calls (k:Nat) (a0:ByteArray) (a1:Bool) (r:ByteArray) (w:World) (h:spec_l4Escape.f k a0 a1=some r) :
  Calls Tryz.prog 46 #[.string a0,.bool a1] w fun e w'=>e=.returned (.string r)∧Below w.heap.size w w':=by
 have HB:=Aside0.mk (Below.refl w.heap.size w)
 have H:(spec_l4Escape.l0 k a0 a1 (([]:List Int)) 0)=some r:=h
 clear h
 obtain ⟨y190,hy190⟩:∃ y_:List Int,y_=(([]:List Int)):=⟨_,rfl⟩
 replace H:(spec_l4Escape.l0 k a0 a1 y190 0)=some r:=by first|(rw [hy190];with_reducible exact H)|(have H2_:=(Option.bind_some _ _).symm.trans H;rw [hy190];with_reducible exact H2_)|(have H2_:=(Option.bind_some _ _).symm.trans H;with_reducible exact H2_)|with_reducible exact H|(rw [hy190];exact H)|exact H
 have Ny190:=Aside0.mk hy190
 clear hy190
 have H':=Aside0.mk H
 clear H
 go_enter Tryz.func46,Tryz.ntmps46
 go_wp2_with (first|((with_reducible refine gate_dst (N:=8) rfl ?_);(try (refine gate_guard (by rfl) ?_;dsimp only));refine Kd.R_lit (Kd.int .u8) _ 5 ?hg (N:=8) ?hd (xs:=([]:List Int)) (inner:=[]) (ok:=fun _=>True) (okp:=fun _=>True) ?hr ?hp (fun _ hk=>hk) trivial (Below.refl _ _) (Nat.le_refl _) (by simp) ?_;(case hd=>rfl);(case hg=>rfl);(case hr=>first|(go_simp;done)|(go_simp;rfl));(case hp=>exact (Reps.none _ _));intro v191 w3 ho4 hb hg_ hnew_;clear hg_ hnew_;(first|rw [← Ny190.out] at ho4|(simp only [Int.reduceToNat] at ho4;rw [← Ny190.out] at ho4));have n0_:=Aside0.mk (Kd.R_lower ho4 (below_size (by repeat (first|(with_reducible first|exact HB.out|apply below_alloc|apply pw_below_drewN|apply below_drew1)|exact HB.out))));have n1_:=Aside0.mk (below_step (by repeat (first|(with_reducible first|exact HB.out|apply below_alloc|apply pw_below_drewN|apply below_drew1)|exact HB.out)) hb);clear HB;have HO192:=n0_;have HB:=n1_;clear n0_ n1_;clear hb ho4))
 go_loopg [5,6] k (fun kq v5 v6 w'=>∃ (x5_1:List Int) (x6_1:Int),v6=.int .i64 x6_1∧Aside0 (spec_l4Escape.l0 kq a0 a1 x5_1 x6_1=some r)∧Aside0 (kq≤k)∧Aside0 (Kd.R (Kd.int .u8) 5 w' w.heap.size (fun _=>True) v5 x5_1)∧Aside0 (Below w.heap.size w w'))
 case atStart=>exact ⟨(y190),(0),(by first|rfl|(simp;done)|(simp [*];done)),H',⟨Nat.le_refl _⟩,⟨by (with_reducible repeat (first|apply Kd.R_alloc|apply Kd.R_drewN|apply Kd.R_drew));exact HO192.out⟩,⟨by repeat (first|(with_reducible first|exact HB.out|apply below_alloc|apply pw_below_drewN|apply below_drew1)|exact HB.out)⟩⟩
 case round=>
  clear H'
  try clear p2
  try clear c4
  obtain ⟨x5_1,x6_1,rfl,HA,HK1,HO_5,HB⟩:=hrel
  cases gk with
  |zero=>exact absurd HA.out (by simp [spec_l4Escape.l0])
  |succ k1=>
   have H:=HA.out
   clear HA
   simp only [spec_l4Escape.l0] at H
   by_cases c5:x6_1<(a0.size:Int)
   ·rw [if_pos c5] at H
    have c5b0:decide (x6_1<(a0.size:Int))=true:=decide_eq_true c5
    clear c5
    by_cases c6:0≤x6_1
    ·rw [if_pos c6] at H
     have c6b0:decide (0≤x6_1)=true:=decide_eq_true c6
     clear c6
     by_cases c8:(bt a0 x6_1)=38
     ·rw [if_pos c8] at H
      have c8b0:((bt a0 x6_1)==38)=true:=beq_iff_eq.mpr c8
      have c8b1:((bt a0 x6_1) != 38)=false:=bne_eq_false_iff_eq.mpr c8
      clear c8
      by_cases c9:x5_1.length+5<140737488355328
      ·rw [if_pos c9] at H
       have LMc9:=Aside0.mk c9
       clear c9
       obtain ⟨y193,hy193⟩:∃ y_:List Int,y_=(x5_1++bytesOf (⟨#[38,97,109,112,59]⟩:ByteArray)):=⟨_,rfl⟩
       replace H:(spec_l4Escape.l0 k1 a0 a1 y193 (wrap64 (x6_1+1)))=some r:=by first|(rw [hy193];with_reducible exact H)|(have H2_:=(Option.bind_some _ _).symm.trans H;rw [hy193];with_reducible exact H2_)|(have H2_:=(Option.bind_some _ _).symm.trans H;with_reducible exact H2_)|with_reducible exact H|(rw [hy193];exact H)|exact H
       have Ny193:=Aside0.mk hy193
       clear hy193
       have H':=Aside0.mk H
       clear H
       have p7:0≤(x6_1:Int):=of_decide_eq_true (by first|(with_reducible assumption)|assumption)
       have q7:x6_1<(a0.size:Int):=of_decide_eq_true (by first|(with_reducible assumption)|assumption)
       have hx7:=bt_at a0 x6_1
       replace p7:=eq_true p7
       replace q7:=eq_true q7
       go_wp2_with (first|(at_builtin;refine print_append_str (w0:=w) w.heap.size rfl (.tmp 20) _ 37 9 5 rfl Tryz.underlying37 Tryz.underlying9 info5 u5 x5_1 (⟨#[38,97,109,112,59]⟩:ByteArray) rfl rfl ?aO ?aB ?aS ?aL ?_;(case aB=>exact (by repeat (first|(with_reducible first|exact HB.out|apply below_alloc|apply pw_below_drewN|apply below_drew1)|exact HB.out)));(case aO=>exact (Kd.own_of_R (by (with_reducible repeat (first|apply Kd.R_alloc|apply Kd.R_drewN|apply Kd.R_drew));exact HO_5.out)));(case aS=>exact (below_size (by repeat (first|(with_reducible first|exact HB.out|apply below_alloc|apply pw_below_drewN|apply below_drew1)|exact HB.out))));(case aL=>have:=LMc9.out;have hz_:(⟨#[38,97,109,112,59]⟩:ByteArray).size=5:=rfl;omega);intro v194 w10 ho0 hb hg;have ho:=Kd.R_of_own (h1:=fun _=>rfl) (ok:=fun _=>True) ho0 (fun _ _=>trivial);clear ho0;have hat:=True.intro;rw [← Ny193.out] at ho;change Kd.R (Kd.int .u8) 5 w10 w.heap.size (fun _=>True) v194 y193 at ho;have n0_:=Aside0.mk (hb);have n1_:=Aside0.mk (ho);clear HB;clear HO_5;have HB:=n0_;have HO195:=n1_;clear n0_ n1_;clear ho hb hg hat))
       go_roundg k1
       case measure=>have:=HK1.out;omega
       case rel=>exact ⟨(y193),(wrap64 (x6_1+1)),(by first|rfl|(simp;done)|(simp [*];done)),H',⟨by have:=HK1.out;omega⟩,⟨by (with_reducible repeat (first|apply Kd.R_alloc|apply Kd.R_drewN|apply Kd.R_drew));exact HO195.out⟩,⟨by repeat (first|(with_reducible first|exact HB.out|apply below_alloc|apply pw_below_drewN|apply below_drew1)|exact HB.out)⟩⟩
      ·rw [if_neg c9] at H
       exact absurd H (by simp)
     ·rw [if_neg c8] at H
      have c8b0:((bt a0 x6_1)==38)=false:=beq_eq_false_iff_ne.mpr c8
      have c8b1:((bt a0 x6_1) != 38)=true:=bne_iff_ne.mpr c8
      have HC11:=Aside0.mk H
      clear H
      have p7:0≤(x6_1:Int):=of_decide_eq_true (by first|(with_reducible assumption)|assumption)
      have q7:x6_1<(a0.size:Int):=of_decide_eq_true (by first|(with_reducible assumption)|assumption)
      have hx7:=bt_at a0 x6_1
      replace p7:=eq_true p7
      replace q7:=eq_true q7
      go_upto_region 8 with (fail)
      go_cut [37] (fun v37 wc=>∃ (kq:Nat) (x37_10:Bool),v37=.bool x37_10∧Aside0 (spec_l4Escape.j1 kq a0 a1 x5_1 x6_1 (bt a0 x6_1) x37_10=some r)∧Aside0 (kq≤k1)∧Aside0 (Kd.R (Kd.int .u8) 5 wc w.heap.size (fun _=>True) u5 x5_1)∧Aside0 (Below w.heap.size w wc))
      case first=>
       have H:=HC11.out
       clear HC11
       by_cases c12:(bt a0 x6_1)=194
       ·rw [if_pos c12] at H
        have c12b0:((bt a0 x6_1)==194)=true:=beq_iff_eq.mpr c12
        have c12b1:((bt a0 x6_1) != 194)=false:=bne_eq_false_iff_eq.mpr c12
        clear c12
        (first|rw [c12b0]|(simp only [i64_w,i32_w];rw [c12b0])|rw [c12b1]|skip)
        by_cases c13:(wrap64 (x6_1+1))<(a0.size:Int)
        ·rw [if_pos c13] at H
         have c13b0:decide ((wrap64 (x6_1+1))<(a0.size:Int))=true:=decide_eq_true c13
         clear c13
         obtain ⟨ji14,hji14⟩:∃ j_:Int,(wrap64 (x6_1+1))=j_:=⟨_,rfl⟩
         replace H:(if 0≤(ji14) then (spec_l4Escape.j1 k1 a0 a1 x5_1 x6_1 (bt a0 x6_1) ((bt a0 (ji14))==160)) else (none))=some r:=by first|(rw [hji14] at H;exact H)|(simp only [hji14] at H ⊢;exact H)
         (try rw [hji14] at c13b0)
         have hji14w:(IntKind.i64.wrap (x6_1+1))=ji14:=(i64_w _).trans hji14
         by_cases c15:0≤(ji14)
         ·rw [if_pos c15] at H
          have c15b0:decide (0≤(ji14))=true:=decide_eq_true c15
          clear c15
          have H':=Aside0.mk H
          clear H
          have p16:0≤((ji14):Int):=of_decide_eq_true (by first|(with_reducible assumption)|assumption)
          have q16:(ji14)<(a0.size:Int):=of_decide_eq_true (by first|(with_reducible assumption)|assumption)
          have hx16:=bt_at a0 (ji14)
          replace p16:=eq_true p16
          replace q16:=eq_true q16
          go_wp2
          go_meet
          case rel=>exact ⟨_,(((bt a0 (ji14))==160)),(by first|rfl|(simp;done)|(simp only [← hji14]<;>(first|rfl|simp))|(simp [*];done)),H',⟨by have:=HK1.out;first|omega|exact Nat.le_refl _⟩,⟨by (with_reducible repeat (first|apply Kd.R_alloc|apply Kd.R_drewN|apply Kd.R_drew));exact HO_5.out⟩,⟨by repeat (first|(with_reducible first|exact HB.out|apply below_alloc|apply pw_below_drewN|apply below_drew1)|exact HB.out)⟩⟩
         ·rw [if_neg c15] at H
          exact absurd H (by simp)
        ·rw [if_neg c13] at H
         have c13b0:decide ((wrap64 (x6_1+1))<(a0.size:Int))=false:=decide_eq_false c13
         clear c13
         have H':=Aside0.mk H
         clear H
         go_wp2
         go_meet
         case rel=>exact ⟨_,(false),(by first|rfl|(simp;done)|(simp [*];done)),H',⟨by have:=HK1.out;first|omega|exact Nat.le_refl _⟩,⟨by (with_reducible repeat (first|apply Kd.R_alloc|apply Kd.R_drewN|apply Kd.R_drew));exact HO_5.out⟩,⟨by repeat (first|(with_reducible first|exact HB.out|apply below_alloc|apply pw_below_drewN|apply below_drew1)|exact HB.out)⟩⟩
       ·rw [if_neg c12] at H
        have c12b0:((bt a0 x6_1)==194)=false:=beq_eq_false_iff_ne.mpr c12
        have c12b1:((bt a0 x6_1) != 194)=true:=bne_iff_ne.mpr c12
        (first|rw [c12b0]|(simp only [i64_w,i32_w];rw [c12b0])|rw [c12b1]|skip)
        have H':=Aside0.mk H
        clear H
        go_wp2
        go_meet
        case rel=>exact ⟨_,(false),(by first|rfl|(simp;done)|(simp [*];done)),H',⟨by have:=HK1.out;first|omega|exact Nat.le_refl _⟩,⟨by (with_reducible repeat (first|apply Kd.R_alloc|apply Kd.R_drewN|apply Kd.R_drew));exact HO_5.out⟩,⟨by repeat (first|(with_reducible first|exact HB.out|apply below_alloc|apply pw_below_drewN|apply below_drew1)|exact HB.out)⟩⟩
      case rest=>
       clear HC11
       try clear c1
       try clear p1
       try clear q1
       try clear hx1
       try clear p2
       try clear c4
       try clear c5
       try clear c5b0
       try clear c6
       try clear c6b0
       try clear p6
       try clear p7
       try clear q7
       try clear hx7
       try clear c8
       try clear c8b0
       try clear c8b1
       try clear c9
       try clear c12
       try clear c12b0
       try clear c12b1
       try clear c13
       try clear c13b0
       try clear c15
       try clear c15b0
       try clear p16
       try clear q16
       try clear hx16
       try clear p16
       try clear p2
       try clear p7
       try clear q16
       try clear q7
       obtain ⟨kq,x37_10,rfl,HA,HJ10,HO_5,HB⟩:=hcut
       cases kq with
       |zero=>exact absurd HA.out (by simp [spec_l4Escape.j1])
       |succ kj10=>
        have H:=HA.out
        clear HA
        simp only [spec_l4Escape.j1] at H
        by_cases c17:x37_10=true
        ·subst c17
         have H1:(if x5_1.length+6<140737488355328 then (spec_l4Escape.l0 kj10 a0 a1 (x5_1++bytesOf (⟨#[38,110,98,115,112,59]⟩:ByteArray)) (wrap64 ((wrap64 (x6_1+1))+1))) else (none))=some r:=by rw [if_pos rfl] at H;exact H
         clear H
         have H:=H1
         clear H1
         by_cases c18:x5_1.length+6<140737488355328
         ·rw [if_pos c18] at H
          have LMc18:=Aside0.mk c18
          clear c18
          obtain ⟨y196,hy196⟩:∃ y_:List Int,y_=(x5_1++bytesOf (⟨#[38,110,98,115,112,59]⟩:ByteArray)):=⟨_,rfl⟩
          replace H:(spec_l4Escape.l0 kj10 a0 a1 y196 (wrap64 ((wrap64 (x6_1+1))+1)))=some r:=by first|(rw [hy196];with_reducible exact H)|(have H2_:=(Option.bind_some _ _).symm.trans H;rw [hy196];with_reducible exact H2_)|(have H2_:=(Option.bind_some _ _).symm.trans H;with_reducible exact H2_)|with_reducible exact H|(rw [hy196];exact H)|exact H
          have Ny196:=Aside0.mk hy196
          clear hy196
          have H':=Aside0.mk H
          clear H
          go_wp2_with (first|(at_builtin;refine print_append_str (w0:=w) w.heap.size rfl (.tmp 38) _ 37 9 5 rfl Tryz.underlying37 Tryz.underlying9 info5 u5 x5_1 (⟨#[38,110,98,115,112,59]⟩:ByteArray) rfl rfl ?aO ?aB ?aS ?aL ?_;(case aB=>exact (by repeat (first|(with_reducible first|exact HB.out|apply below_alloc|apply pw_below_drewN|apply below_drew1)|exact HB.out)));(case aO=>exact (Kd.own_of_R (by (with_reducible repeat (first|apply Kd.R_alloc|apply Kd.R_drewN|apply Kd.R_drew));exact HO_5.out)));(case aS=>exact (below_size (by repeat (first|(with_reducible first|exact HB.out|apply below_alloc|apply pw_below_drewN|apply below_drew1)|exact HB.out))));(case aL=>have:=LMc18.out;have hz_:(⟨#[38,110,98,115,112,59]⟩:ByteArray).size=6:=rfl;omega);intro v197 w19 ho0 hb hg;have ho:=Kd.R_of_own (h1:=fun _=>rfl) (ok:=fun _=>True) ho0 (fun _ _=>trivial);clear ho0;have hat:=True.intro;rw [← Ny196.out] at ho;change Kd.R (Kd.int .u8) 5 w19 w.heap.size (fun _=>True) v197 y196 at ho;have n0_:=Aside0.mk (hb);have n1_:=Aside0.mk (ho);clear HB;clear HO_5;have HB:=n0_;have HO198:=n1_;clear n0_ n1_;clear ho hb hg hat))
          go_roundg kj10
          case measure=>have:=HK1.out;have:=HJ10.out;omega
          case rel=>exact ⟨(y196),(wrap64 ((wrap64 (x6_1+1))+1)),(by first|rfl|(simp;done)|(simp [*];done)),H',⟨by have:=HK1.out;have:=HJ10.out;omega⟩,⟨by (with_reducible repeat (first|apply Kd.R_alloc|apply Kd.R_drewN|apply Kd.R_drew));exact HO198.out⟩,⟨by repeat (first|(with_reducible first|exact HB.out|apply below_alloc|apply pw_below_drewN|apply below_drew1)|exact HB.out)⟩⟩
         ·rw [if_neg c18] at H
          exact absurd H (by simp)
        ·replace c17:=Bool.eq_false_iff.mpr c17
         subst c17
         have H1:(if (bt a0 x6_1)=60 then (spec_l4Escape.j2 kj10 a0 a1 x5_1 x6_1 (bt a0 x6_1) (!a1)) else (spec_l4Escape.j2 kj10 a0 a1 x5_1 x6_1 (bt a0 x6_1) false))=some r:=by rw [if_neg (show ¬ (false=true) by decide)] at H;exact H
         clear H
         have H:=H1
         clear H1
         have HC20:=Aside0.mk H
         clear H
         go_upto_region 11 with (fail)
         go_cut [47] (fun v47 wc=>∃ (kq:Nat) (x47_19:Bool),v47=.bool x47_19∧Aside0 (spec_l4Escape.j2 kq a0 a1 x5_1 x6_1 (bt a0 x6_1) x47_19=some r)∧Aside0 (kq≤kj10)∧Aside0 (Kd.R (Kd.int .u8) 5 wc w.heap.size (fun _=>True) u5 x5_1)∧Aside0 (Below w.heap.size w wc))
         case first=>
          have H:=HC20.out
          clear HC20
          by_cases c21:(bt a0 x6_1)=60
          ·rw [if_pos c21] at H
           have c21b0:((bt a0 x6_1)==60)=true:=beq_iff_eq.mpr c21
           have c21b1:((bt a0 x6_1) != 60)=false:=bne_eq_false_iff_eq.mpr c21
           clear c21
           (first|rw [c21b0]|(simp only [i64_w,i32_w];rw [c21b0])|rw [c21b1]|skip)
           have H':=Aside0.mk H
           clear H
           go_wp2
           go_meet
           case rel=>exact ⟨_,(!a1),(by first|rfl|(simp;done)|(simp [*];done)),H',⟨by have:=HK1.out;have:=HJ10.out;first|omega|exact Nat.le_refl _⟩,⟨by (with_reducible repeat (first|apply Kd.R_alloc|apply Kd.R_drewN|apply Kd.R_drew));exact HO_5.out⟩,⟨by repeat (first|(with_reducible first|exact HB.out|apply below_alloc|apply pw_below_drewN|apply below_drew1)|exact HB.out)⟩⟩
          ·rw [if_neg c21] at H
           have c21b0:((bt a0 x6_1)==60)=false:=beq_eq_false_iff_ne.mpr c21
           have c21b1:((bt a0 x6_1) != 60)=true:=bne_iff_ne.mpr c21
           (first|rw [c21b0]|(simp only [i64_w,i32_w];rw [c21b0])|rw [c21b1]|skip)
           have H':=Aside0.mk H
           clear H
           go_wp2
           go_meet
           case rel=>exact ⟨_,(false),(by first|rfl|(simp;done)|(simp [*];done)),H',⟨by have:=HK1.out;have:=HJ10.out;first|omega|exact Nat.le_refl _⟩,⟨by (with_reducible repeat (first|apply Kd.R_alloc|apply Kd.R_drewN|apply Kd.R_drew));exact HO_5.out⟩,⟨by repeat (first|(with_reducible first|exact HB.out|apply below_alloc|apply pw_below_drewN|apply below_drew1)|exact HB.out)⟩⟩
         case rest=>
          clear HC20
          try clear c1
          try clear p1
          try clear q1
          try clear hx1
          try clear c2
          try clear p2
          try clear c4
          try clear c5
          try clear c5b0
          try clear c6
          try clear c6b0
          try clear p6
          try clear p7
          try clear q7
          try clear hx7
          try clear c8
          try clear c8b0
          try clear c8b1
          try clear c9
          try clear c12
          try clear c12b0
          try clear c12b1
          try clear c13
          try clear c13b0
          try clear c15
          try clear c15b0
          try clear p16
          try clear q16
          try clear hx16
          try clear c17
          try clear c18
          try clear c21
          try clear c21b0
          try clear c21b1
          try clear p1
          try clear p16
          try clear p2
          try clear p6
          try clear p7
          try clear q1
          try clear q16
          try clear q7
          obtain ⟨kq,x47_19,rfl,HA,HJ19,HO_5,HB⟩:=hcut
          cases kq with
          |zero=>exact absurd HA.out (by simp [spec_l4Escape.j2])
          |succ kj19=>
           have H:=HA.out
           clear HA
           simp only [spec_l4Escape.j2] at H
           by_cases c22:x47_19=true
           ·subst c22
            have H1:(if x5_1.length+4<140737488355328 then (spec_l4Escape.l0 kj19 a0 a1 (x5_1++bytesOf (⟨#[38,108,116,59]⟩:ByteArray)) (wrap64 (x6_1+1))) else (none))=some r:=by rw [if_pos rfl] at H;exact H
            clear H
            have H:=H1
            clear H1
            by_cases c23:x5_1.length+4<140737488355328
            ·rw [if_pos c23] at H
             have LMc23:=Aside0.mk c23
             clear c23
             obtain ⟨y199,hy199⟩:∃ y_:List Int,y_=(x5_1++bytesOf (⟨#[38,108,116,59]⟩:ByteArray)):=⟨_,rfl⟩
             replace H:(spec_l4Escape.l0 kj19 a0 a1 y199 (wrap64 (x6_1+1)))=some r:=by first|(rw [hy199];with_reducible exact H)|(have H2_:=(Option.bind_some _ _).symm.trans H;rw [hy199];with_reducible exact H2_)|(have H2_:=(Option.bind_some _ _).symm.trans H;with_reducible exact H2_)|with_reducible exact H|(rw [hy199];exact H)|exact H
             have Ny199:=Aside0.mk hy199
             clear hy199
             have H':=Aside0.mk H
             clear H
             go_wp2_with (first|(at_builtin;refine print_append_str (w0:=w) w.heap.size rfl (.tmp 48) _ 37 9 5 rfl Tryz.underlying37 Tryz.underlying9 info5 u5 x5_1 (⟨#[38,108,116,59]⟩:ByteArray) rfl rfl ?aO ?aB ?aS ?aL ?_;(case aB=>exact (by repeat (first|(with_reducible first|exact HB.out|apply below_alloc|apply pw_below_drewN|apply below_drew1)|exact HB.out)));(case aO=>exact (Kd.own_of_R (by (with_reducible repeat (first|apply Kd.R_alloc|apply Kd.R_drewN|apply Kd.R_drew));exact HO_5.out)));(case aS=>exact (below_size (by repeat (first|(with_reducible first|exact HB.out|apply below_alloc|apply pw_below_drewN|apply below_drew1)|exact HB.out))));(case aL=>have:=LMc23.out;have hz_:(⟨#[38,108,116,59]⟩:ByteArray).size=4:=rfl;omega);intro v200 w24 ho0 hb hg;have ho:=Kd.R_of_own (h1:=fun _=>rfl) (ok:=fun _=>True) ho0 (fun _ _=>trivial);clear ho0;have hat:=True.intro;rw [← Ny199.out] at ho;change Kd.R (Kd.int .u8) 5 w24 w.heap.size (fun _=>True) v200 y199 at ho;have n0_:=Aside0.mk (hb);have n1_:=Aside0.mk (ho);clear HB;clear HO_5;have HB:=n0_;have HO201:=n1_;clear n0_ n1_;clear ho hb hg hat))
             go_roundg kj19
             case measure=>have:=HK1.out;have:=HJ10.out;have:=HJ19.out;omega
             case rel=>exact ⟨(y199),(wrap64 (x6_1+1)),(by first|rfl|(simp;done)|(simp [*];done)),H',⟨by have:=HK1.out;have:=HJ10.out;have:=HJ19.out;omega⟩,⟨by (with_reducible repeat (first|apply Kd.R_alloc|apply Kd.R_drewN|apply Kd.R_drew));exact HO201.out⟩,⟨by repeat (first|(with_reducible first|exact HB.out|apply below_alloc|apply pw_below_drewN|apply below_drew1)|exact HB.out)⟩⟩
            ·rw [if_neg c23] at H
             exact absurd H (by simp)
           ·replace c22:=Bool.eq_false_iff.mpr c22
            subst c22
            have H1:(if (bt a0 x6_1)=62 then (spec_l4Escape.j3 kj19 a0 a1 x5_1 x6_1 (bt a0 x6_1) (!a1)) else (spec_l4Escape.j3 kj19 a0 a1 x5_1 x6_1 (bt a0 x6_1) false))=some r:=by rw [if_neg (show ¬ (false=true) by decide)] at H;exact H
            clear H
            have H:=H1
            clear H1
            have HC25:=Aside0.mk H
            clear H
            go_upto_region 13 with (fail)
            go_cut [55] (fun v55 wc=>∃ (kq:Nat) (x55_24:Bool),v55=.bool x55_24∧Aside0 (spec_l4Escape.j3 kq a0 a1 x5_1 x6_1 (bt a0 x6_1) x55_24=some r)∧Aside0 (kq≤kj19)∧Aside0 (Kd.R (Kd.int .u8) 5 wc w.heap.size (fun _=>True) u5 x5_1)∧Aside0 (Below w.heap.size w wc))
            case first=>
             have H:=HC25.out
             clear HC25
             by_cases c26:(bt a0 x6_1)=62
             ·rw [if_pos c26] at H
              have c26b0:((bt a0 x6_1)==62)=true:=beq_iff_eq.mpr c26
              have c26b1:((bt a0 x6_1) != 62)=false:=bne_eq_false_iff_eq.mpr c26
              clear c26
              (first|rw [c26b0]|(simp only [i64_w,i32_w];rw [c26b0])|rw [c26b1]|skip)
              have H':=Aside0.mk H
              clear H
              go_wp2
              go_meet
              case rel=>exact ⟨_,(!a1),(by first|rfl|(simp;done)|(simp [*];done)),H',⟨by have:=HK1.out;have:=HJ10.out;have:=HJ19.out;first|omega|exact Nat.le_refl _⟩,⟨by (with_reducible repeat (first|apply Kd.R_alloc|apply Kd.R_drewN|apply Kd.R_drew));exact HO_5.out⟩,⟨by repeat (first|(with_reducible first|exact HB.out|apply below_alloc|apply pw_below_drewN|apply below_drew1)|exact HB.out)⟩⟩
             ·rw [if_neg c26] at H
              have c26b0:((bt a0 x6_1)==62)=false:=beq_eq_false_iff_ne.mpr c26
              have c26b1:((bt a0 x6_1) != 62)=true:=bne_iff_ne.mpr c26
              (first|rw [c26b0]|(simp only [i64_w,i32_w];rw [c26b0])|rw [c26b1]|skip)
              have H':=Aside0.mk H
              clear H
              go_wp2
              go_meet
              case rel=>exact ⟨_,(false),(by first|rfl|(simp;done)|(simp [*];done)),H',⟨by have:=HK1.out;have:=HJ10.out;have:=HJ19.out;first|omega|exact Nat.le_refl _⟩,⟨by (with_reducible repeat (first|apply Kd.R_alloc|apply Kd.R_drewN|apply Kd.R_drew));exact HO_5.out⟩,⟨by repeat (first|(with_reducible first|exact HB.out|apply below_alloc|apply pw_below_drewN|apply below_drew1)|exact HB.out)⟩⟩
            case rest=>
             clear HC25
             try clear c1
             try clear p1
             try clear q1
             try clear hx1
             try clear c2
             try clear p2
             try clear c4
             try clear c5
             try clear c5b0
             try clear c6
             try clear c6b0
             try clear p6
             try clear p7
             try clear q7
             try clear hx7
             try clear c8
             try clear c8b0
             try clear c8b1
             try clear c9
             try clear c12
             try clear c12b0
             try clear c12b1
             try clear c13
             try clear c13b0
             try clear c15
             try clear c15b0
             try clear p16
             try clear q16
             try clear hx16
             try clear c17
             try clear c18
             try clear c21
             try clear c21b0
             try clear c21b1
             try clear c22
             try clear c23
             try clear c26
             try clear c26b0
             try clear c26b1
             try clear p1
             try clear p16
             try clear p2
             try clear p6
             try clear p7
             try clear q1
             try clear q16
             try clear q7
             obtain ⟨kq,x55_24,rfl,HA,HJ24,HO_5,HB⟩:=hcut
             cases kq with
             |zero=>exact absurd HA.out (by simp [spec_l4Escape.j3])
             |succ kj24=>
              have H:=HA.out
              clear HA
              simp only [spec_l4Escape.j3] at H
              by_cases c27:x55_24=true
              ·subst c27
               have H1:(if x5_1.length+4<140737488355328 then (spec_l4Escape.l0 kj24 a0 a1 (x5_1++bytesOf (⟨#[38,103,116,59]⟩:ByteArray)) (wrap64 (x6_1+1))) else (none))=some r:=by rw [if_pos rfl] at H;exact H
               clear H
               have H:=H1
               clear H1
               by_cases c28:x5_1.length+4<140737488355328
               ·rw [if_pos c28] at H
                have LMc28:=Aside0.mk c28
                clear c28
                obtain ⟨y202,hy202⟩:∃ y_:List Int,y_=(x5_1++bytesOf (⟨#[38,103,116,59]⟩:ByteArray)):=⟨_,rfl⟩
                replace H:(spec_l4Escape.l0 kj24 a0 a1 y202 (wrap64 (x6_1+1)))=some r:=by first|(rw [hy202];with_reducible exact H)|(have H2_:=(Option.bind_some _ _).symm.trans H;rw [hy202];with_reducible exact H2_)|(have H2_:=(Option.bind_some _ _).symm.trans H;with_reducible exact H2_)|with_reducible exact H|(rw [hy202];exact H)|exact H
                have Ny202:=Aside0.mk hy202
                clear hy202
                have H':=Aside0.mk H
                clear H
                go_wp2_with (first|(at_builtin;refine print_append_str (w0:=w) w.heap.size rfl (.tmp 56) _ 37 9 5 rfl Tryz.underlying37 Tryz.underlying9 info5 u5 x5_1 (⟨#[38,103,116,59]⟩:ByteArray) rfl rfl ?aO ?aB ?aS ?aL ?_;(case aB=>exact (by repeat (first|(with_reducible first|exact HB.out|apply below_alloc|apply pw_below_drewN|apply below_drew1)|exact HB.out)));(case aO=>exact (Kd.own_of_R (by (with_reducible repeat (first|apply Kd.R_alloc|apply Kd.R_drewN|apply Kd.R_drew));exact HO_5.out)));(case aS=>exact (below_size (by repeat (first|(with_reducible first|exact HB.out|apply below_alloc|apply pw_below_drewN|apply below_drew1)|exact HB.out))));(case aL=>have:=LMc28.out;have hz_:(⟨#[38,103,116,59]⟩:ByteArray).size=4:=rfl;omega);intro v203 w29 ho0 hb hg;have ho:=Kd.R_of_own (h1:=fun _=>rfl) (ok:=fun _=>True) ho0 (fun _ _=>trivial);clear ho0;have hat:=True.intro;rw [← Ny202.out] at ho;change Kd.R (Kd.int .u8) 5 w29 w.heap.size (fun _=>True) v203 y202 at ho;have n0_:=Aside0.mk (hb);have n1_:=Aside0.mk (ho);clear HB;clear HO_5;have HB:=n0_;have HO204:=n1_;clear n0_ n1_;clear ho hb hg hat))
                go_roundg kj24
                case measure=>have:=HK1.out;have:=HJ10.out;have:=HJ19.out;have:=HJ24.out;omega
                case rel=>exact ⟨(y202),(wrap64 (x6_1+1)),(by first|rfl|(simp;done)|(simp [*];done)),H',⟨by have:=HK1.out;have:=HJ10.out;have:=HJ19.out;have:=HJ24.out;omega⟩,⟨by (with_reducible repeat (first|apply Kd.R_alloc|apply Kd.R_drewN|apply Kd.R_drew));exact HO204.out⟩,⟨by repeat (first|(with_reducible first|exact HB.out|apply below_alloc|apply pw_below_drewN|apply below_drew1)|exact HB.out)⟩⟩
               ·rw [if_neg c28] at H
                exact absurd H (by simp)
              ·replace c27:=Bool.eq_false_iff.mpr c27
               subst c27
               have H1:(if (bt a0 x6_1)=34 then (if a1=true then (if x5_1.length+6<140737488355328 then (spec_l4Escape.l0 kj24 a0 a1 (x5_1++bytesOf (⟨#[38,113,117,111,116,59]⟩:ByteArray)) (wrap64 (x6_1+1))) else (none)) else (if x5_1.length<140737488355328 then (spec_l4Escape.l0 kj24 a0 a1 (x5_1++[(bt a0 x6_1)]) (wrap64 (x6_1+1))) else (none))) else (if x5_1.length<140737488355328 then (spec_l4Escape.l0 kj24 a0 a1 (x5_1++[(bt a0 x6_1)]) (wrap64 (x6_1+1))) else (none)))=some r:=by rw [if_neg (show ¬ (false=true) by decide)] at H;exact H
               clear H
               have H:=H1
               clear H1
               by_cases c30:(bt a0 x6_1)=34
               ·rw [if_pos c30] at H
                have c30b0:((bt a0 x6_1)==34)=true:=beq_iff_eq.mpr c30
                have c30b1:((bt a0 x6_1) != 34)=false:=bne_eq_false_iff_eq.mpr c30
                clear c30
                by_cases c31:a1=true
                ·subst c31
                 have H1:(if x5_1.length+6<140737488355328 then (spec_l4Escape.l0 kj24 a0 true (x5_1++bytesOf (⟨#[38,113,117,111,116,59]⟩:ByteArray)) (wrap64 (x6_1+1))) else (none))=some r:=by rw [if_pos rfl] at H;exact H
                 clear H
                 have H:=H1
                 clear H1
                 by_cases c32:x5_1.length+6<140737488355328
                 ·rw [if_pos c32] at H
                  have LMc32:=Aside0.mk c32
                  clear c32
                  obtain ⟨y205,hy205⟩:∃ y_:List Int,y_=(x5_1++bytesOf (⟨#[38,113,117,111,116,59]⟩:ByteArray)):=⟨_,rfl⟩
                  replace H:(spec_l4Escape.l0 kj24 a0 true y205 (wrap64 (x6_1+1)))=some r:=by first|(rw [hy205];with_reducible exact H)|(have H2_:=(Option.bind_some _ _).symm.trans H;rw [hy205];with_reducible exact H2_)|(have H2_:=(Option.bind_some _ _).symm.trans H;with_reducible exact H2_)|with_reducible exact H|(rw [hy205];exact H)|exact H
                  have Ny205:=Aside0.mk hy205
                  clear hy205
                  have H':=Aside0.mk H
                  clear H
                  go_wp2_with (first|(at_builtin;refine print_append_str (w0:=w) w.heap.size rfl (.tmp 63) _ 37 9 5 rfl Tryz.underlying37 Tryz.underlying9 info5 u5 x5_1 (⟨#[38,113,117,111,116,59]⟩:ByteArray) rfl rfl ?aO ?aB ?aS ?aL ?_;(case aB=>exact (by repeat (first|(with_reducible first|exact HB.out|apply below_alloc|apply pw_below_drewN|apply below_drew1)|exact HB.out)));(case aO=>exact (Kd.own_of_R (by (with_reducible repeat (first|apply Kd.R_alloc|apply Kd.R_drewN|apply Kd.R_drew));exact HO_5.out)));(case aS=>exact (below_size (by repeat (first|(with_reducible first|exact HB.out|apply below_alloc|apply pw_below_drewN|apply below_drew1)|exact HB.out))));(case aL=>have:=LMc32.out;have hz_:(⟨#[38,113,117,111,116,59]⟩:ByteArray).size=6:=rfl;omega);intro v206 w33 ho0 hb hg;have ho:=Kd.R_of_own (h1:=fun _=>rfl) (ok:=fun _=>True) ho0 (fun _ _=>trivial);clear ho0;have hat:=True.intro;rw [← Ny205.out] at ho;change Kd.R (Kd.int .u8) 5 w33 w.heap.size (fun _=>True) v206 y205 at ho;have n0_:=Aside0.mk (hb);have n1_:=Aside0.mk (ho);clear HB;clear HO_5;have HB:=n0_;have HO207:=n1_;clear n0_ n1_;clear ho hb hg hat))
                  go_roundg kj24
                  case measure=>have:=HK1.out;have:=HJ10.out;have:=HJ19.out;have:=HJ24.out;omega
                  case rel=>exact ⟨(y205),(wrap64 (x6_1+1)),(by first|rfl|(simp;done)|(simp [*];done)),H',⟨by have:=HK1.out;have:=HJ10.out;have:=HJ19.out;have:=HJ24.out;omega⟩,⟨by (with_reducible repeat (first|apply Kd.R_alloc|apply Kd.R_drewN|apply Kd.R_drew));exact HO207.out⟩,⟨by repeat (first|(with_reducible first|exact HB.out|apply below_alloc|apply pw_below_drewN|apply below_drew1)|exact HB.out)⟩⟩
                 ·rw [if_neg c32] at H
                  exact absurd H (by simp)
                ·replace c31:=Bool.eq_false_iff.mpr c31
                 subst c31
                 have H1:(if x5_1.length<140737488355328 then (spec_l4Escape.l0 kj24 a0 false (x5_1++[(bt a0 x6_1)]) (wrap64 (x6_1+1))) else (none))=some r:=by rw [if_neg (show ¬ (false=true) by decide)] at H;exact H
                 clear H
                 have H:=H1
                 clear H1
                 by_cases c34:x5_1.length<140737488355328
                 ·rw [if_pos c34] at H
                  have LMc34:=Aside0.mk c34
                  clear c34
                  obtain ⟨y208,hy208⟩:∃ y_:List Int,y_=(x5_1++[(bt a0 x6_1)]):=⟨_,rfl⟩
                  replace H:(spec_l4Escape.l0 kj24 a0 false y208 (wrap64 (x6_1+1)))=some r:=by first|(rw [hy208];with_reducible exact H)|(have H2_:=(Option.bind_some _ _).symm.trans H;rw [hy208];with_reducible exact H2_)|(have H2_:=(Option.bind_some _ _).symm.trans H;with_reducible exact H2_)|with_reducible exact H|(rw [hy208];exact H)|exact H
                  have Ny208:=Aside0.mk hy208
                  clear hy208
                  have H':=Aside0.mk H
                  clear H
                  go_wp2_with (first|((with_reducible refine gate_builtin (b:=.append) (xs:=#[.tmp 65,.tmp 67]) rfl ?_);(try (refine gate_guard (by rfl) ?_;dsimp only));at_builtin;refine Kd.R_append (Kd.int .u8) (w0:=w) w.heap.size rfl (.tmp 65) (.tmp 67) 37 5 (.int .u8 0) 1 rfl Tryz.underlying37 info5 rfl (by decide) (by omega) u5 x5_1 (bt a0 x6_1) [.int .u8 (bt a0 x6_1)] (fun _=>True) (fun _=>False) rfl rfl ?aP (fun _ hk=>hk.elim) ?aF ?aO ?aB ?aS ?aL ?_;(case aP=>exact rfl);(case aB=>exact (by repeat (first|(with_reducible first|exact HB.out|apply below_alloc|apply pw_below_drewN|apply below_drew1)|exact HB.out)));(case aF=>exact (fun _ _=>trivial));(case aO=>exact (by (with_reducible repeat (first|apply Kd.R_alloc|apply Kd.R_drewN|apply Kd.R_drew));exact HO_5.out));(case aS=>exact (below_size (by repeat (first|(with_reducible first|exact HB.out|apply below_alloc|apply pw_below_drewN|apply below_drew1)|exact HB.out))));(case aL=>have:=LMc34.out;omega);intro v209 w35 ho hb hg hat;rw [← Ny208.out] at ho;have n0_:=Aside0.mk (hb);have n1_:=Aside0.mk (ho);clear HB;clear HO_5;have HB:=n0_;have HO210:=n1_;clear n0_ n1_;clear ho hb hg hat))
                  go_roundg kj24
                  case measure=>have:=HK1.out;have:=HJ10.out;have:=HJ19.out;have:=HJ24.out;omega
                  case rel=>exact ⟨(y208),(wrap64 (x6_1+1)),(by first|rfl|(simp;done)|(simp [*];done)),H',⟨by have:=HK1.out;have:=HJ10.out;have:=HJ19.out;have:=HJ24.out;omega⟩,⟨by (with_reducible repeat (first|apply Kd.R_alloc|apply Kd.R_drewN|apply Kd.R_drew));exact HO210.out⟩,⟨by repeat (first|(with_reducible first|exact HB.out|apply below_alloc|apply pw_below_drewN|apply below_drew1)|exact HB.out)⟩⟩
                 ·rw [if_neg c34] at H
                  exact absurd H (by simp)
               ·rw [if_neg c30] at H
                have c30b0:((bt a0 x6_1)==34)=false:=beq_eq_false_iff_ne.mpr c30
                have c30b1:((bt a0 x6_1) != 34)=true:=bne_iff_ne.mpr c30
                by_cases c36:x5_1.length<140737488355328
                ·rw [if_pos c36] at H
                 have LMc36:=Aside0.mk c36
                 clear c36
                 obtain ⟨y211,hy211⟩:∃ y_:List Int,y_=(x5_1++[(bt a0 x6_1)]):=⟨_,rfl⟩
                 replace H:(spec_l4Escape.l0 kj24 a0 a1 y211 (wrap64 (x6_1+1)))=some r:=by first|(rw [hy211];with_reducible exact H)|(have H2_:=(Option.bind_some _ _).symm.trans H;rw [hy211];with_reducible exact H2_)|(have H2_:=(Option.bind_some _ _).symm.trans H;with_reducible exact H2_)|with_reducible exact H|(rw [hy211];exact H)|exact H
                 have Ny211:=Aside0.mk hy211
                 clear hy211
                 have H':=Aside0.mk H
                 clear H
                 go_wp2_with (first|((with_reducible refine gate_builtin (b:=.append) (xs:=#[.tmp 65,.tmp 67]) rfl ?_);(try (refine gate_guard (by rfl) ?_;dsimp only));at_builtin;refine Kd.R_append (Kd.int .u8) (w0:=w) w.heap.size rfl (.tmp 65) (.tmp 67) 37 5 (.int .u8 0) 1 rfl Tryz.underlying37 info5 rfl (by decide) (by omega) u5 x5_1 (bt a0 x6_1) [.int .u8 (bt a0 x6_1)] (fun _=>True) (fun _=>False) rfl rfl ?aP (fun _ hk=>hk.elim) ?aF ?aO ?aB ?aS ?aL ?_;(case aP=>exact rfl);(case aB=>exact (by repeat (first|(with_reducible first|exact HB.out|apply below_alloc|apply pw_below_drewN|apply below_drew1)|exact HB.out)));(case aF=>exact (fun _ _=>trivial));(case aO=>exact (by (with_reducible repeat (first|apply Kd.R_alloc|apply Kd.R_drewN|apply Kd.R_drew));exact HO_5.out));(case aS=>exact (below_size (by repeat (first|(with_reducible first|exact HB.out|apply below_alloc|apply pw_below_drewN|apply below_drew1)|exact HB.out))));(case aL=>have:=LMc36.out;omega);intro v212 w37 ho hb hg hat;rw [← Ny211.out] at ho;have n0_:=Aside0.mk (hb);have n1_:=Aside0.mk (ho);clear HB;clear HO_5;have HB:=n0_;have HO213:=n1_;clear n0_ n1_;clear ho hb hg hat))
                 go_roundg kj24
                 case measure=>have:=HK1.out;have:=HJ10.out;have:=HJ19.out;have:=HJ24.out;omega
                 case rel=>exact ⟨(y211),(wrap64 (x6_1+1)),(by first|rfl|(simp;done)|(simp [*];done)),H',⟨by have:=HK1.out;have:=HJ10.out;have:=HJ19.out;have:=HJ24.out;omega⟩,⟨by (with_reducible repeat (first|apply Kd.R_alloc|apply Kd.R_drewN|apply Kd.R_drew));exact HO213.out⟩,⟨by repeat (first|(with_reducible first|exact HB.out|apply below_alloc|apply pw_below_drewN|apply below_drew1)|exact HB.out)⟩⟩
                ·rw [if_neg c36] at H
                 exact absurd H (by simp)
    ·rw [if_neg c6] at H
     exact absurd H (by simp)
   ·rw [if_neg c5] at H
    have c5b0:decide (x6_1<(a0.size:Int))=false:=decide_eq_false c5
    clear c5
    obtain rfl:=Option.some.inj H
    have hcv38:=own_string (P:=Tryz.prog) Tryz.underlying37 Tryz.underlying5 Tryz.underlying9 (Kd.own_of_R HO_5.out)
    go_wp2
    go_ret
    exact ⟨by first|rfl|(simp [errW_none,errW_some]<;>rfl)|(simp [*,errW_none,errW_some]<;>rfl),by repeat (first|(with_reducible first|exact HB.out|apply below_alloc|apply pw_below_drewN|apply below_drew1)|exact HB.out)⟩
/-! ### spec_EscapeText: function 34 -/
def spec_EscapeText.f (k:Nat) (a0:ByteArray):Option (ByteArray):=(spec_l4Escape.f k a0 false).bind fun t214=>(some t214)
theorem spec_EscapeText.mono:∀ a0 k,LeO (spec_EscapeText.f k a0) (spec_EscapeText.f (k+1) a0):=by
 intro a0 k
 unfold spec_EscapeText.f
 repeat' first
   |(with_reducible exact spec_l4Escape.mono _ _ _)
   |(with_reducible exact LeO.refl _)
   |(with_reducible exact LeO.none _)
   |(with_reducible refine LeO.ite ?_ ?_)
   |(with_reducible refine LeO.bind ?_ (fun _=>?_))
   |exact spec_l4Escape.mono _ _ _
   |exact LeO.none _
   |refine LeO.ite ?_ ?_
   |refine LeO.bind ?_ (fun _=>?_)
set_option maxHeartbeats 8000000 in
set_option maxRecDepth 100000 in
theorem spec_EscapeText.calls (k:Nat) (a0:ByteArray) (r:ByteArray) (w:World) (h:spec_EscapeText.f k a0=some r) :
  Calls Tryz.prog 34 #[.string a0] w fun e w'=>e=.returned (.string r)∧Below w.heap.size w w':=by
 have HB:=Aside0.mk (Below.refl w.heap.size w)
 have H:((spec_l4Escape.f k a0 false).bind fun t214=>(some t214))=some r:=h
 clear h
 replace H:=Option.bind_eq_some_iff.mp H
 obtain ⟨t214,A20,H⟩:=H
 replace H:(some t214)=some r:=H
 have A2:=Aside0.mk A20
 clear A20
 obtain rfl:=Option.some.inj H
 go_enter Tryz.func34,Tryz.ntmps34
 go_wp2_with (first|((with_reducible refine gate_callee (f:=46) rfl ?_);refine goesL_ (some 4) rfl rfl Tryz.func46 (by kernel_rfl) rfl #[.string a0,.bool false] rfl (by (try simp only [List.map_toArray,List.map_cons,List.map_nil]);first|done|rfl|(simp only [List.length_drop,List.length_take];rfl)) ?_;(with_reducible refine (spec_l4Escape.calls k a0 false t214 _ A2.out).mono ?_);rintro e w3 ⟨rfl,hb⟩;refine ⟨_,rfl,?_⟩;have n0_:=Aside0.mk (below_step (by repeat (first|(with_reducible first|exact HB.out|apply below_alloc|apply pw_below_drewN|apply below_drew1)|exact HB.out)) hb);clear HB;have HB:=n0_;clear n0_;(try clear hb);(try clear hb2);(try clear hk);(try clear hi)))
 go_ret
 exact ⟨by first|rfl|(simp [errW_none,errW_some]<;>rfl)|(simp [*,errW_none,errW_some]<;>rfl),by repeat (first|(with_reducible first|exact HB.out|apply below_alloc|apply pw_below_drewN|apply below_drew1)|exact HB.out)⟩
/-! ### spec_EscapeValue: function 35 -/
def spec_EscapeValue.f (k:Nat) (a0:ByteArray):Option (ByteArray):=(spec_l4Escape.f k a0 true).bind fun t215=>(some t215)
theorem spec_EscapeValue.mono:∀ a0 k,LeO (spec_EscapeValue.f k a0) (spec_EscapeValue.f (k+1) a0):=by
 intro a0 k
 unfold spec_EscapeValue.f
 repeat' first
   |(with_reducible exact spec_l4Escape.mono _ _ _)
   |(with_reducible exact LeO.refl _)
   |(with_reducible exact LeO.none _)
   |(with_reducible refine LeO.ite ?_ ?_)
   |(with_reducible refine LeO.bind ?_ (fun _=>?_))
   |exact spec_l4Escape.mono _ _ _
   |exact LeO.none _
   |refine LeO.ite ?_ ?_
   |refine LeO.bind ?_ (fun _=>?_)
set_option maxHeartbeats 8000000 in
set_option maxRecDepth 100000 in
theorem spec_EscapeValue.calls (k:Nat) (a0:ByteArray) (r:ByteArray) (w:World) (h:spec_EscapeValue.f k a0=some r) :
  Calls Tryz.prog 35 #[.string a0] w fun e w'=>e=.returned (.string r)∧Below w.heap.size w w':=by
 have HB:=Aside0.mk (Below.refl w.heap.size w)
 have H:((spec_l4Escape.f k a0 true).bind fun t215=>(some t215))=some r:=h
 clear h
 replace H:=Option.bind_eq_some_iff.mp H
 obtain ⟨t215,A20,H⟩:=H
 replace H:(some t215)=some r:=H
 have A2:=Aside0.mk A20
 clear A20
 obtain rfl:=Option.some.inj H
 go_enter Tryz.func35,Tryz.ntmps35
 go_wp2_with (first|((with_reducible refine gate_callee (f:=46) rfl ?_);refine goesL_ (some 4) rfl rfl Tryz.func46 (by kernel_rfl) rfl #[.string a0,.bool true] rfl (by (try simp only [List.map_toArray,List.map_cons,List.map_nil]);first|done|rfl|(simp only [List.length_drop,List.length_take];rfl)) ?_;(with_reducible refine (spec_l4Escape.calls k a0 true t215 _ A2.out).mono ?_);rintro e w3 ⟨rfl,hb⟩;refine ⟨_,rfl,?_⟩;have n0_:=Aside0.mk (below_step (by repeat (first|(with_reducible first|exact HB.out|apply below_alloc|apply pw_below_drewN|apply below_drew1)|exact HB.out)) hb);clear HB;have HB:=n0_;clear n0_;(try clear hb);(try clear hb2);(try clear hk);(try clear hi)))
 go_ret
 exact ⟨by first|rfl|(simp [errW_none,errW_some]<;>rfl)|(simp [*,errW_none,errW_some]<;>rfl),by repeat (first|(with_reducible first|exact HB.out|apply below_alloc|apply pw_below_drewN|apply below_drew1)|exact HB.out)⟩
end Go.Proofs.YtjojmfhgfeflnaaGreatDoor.QFnExactInner
