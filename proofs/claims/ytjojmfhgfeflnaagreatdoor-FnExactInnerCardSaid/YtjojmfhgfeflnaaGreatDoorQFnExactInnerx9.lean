/- Written by a program (wip/tools/own_print.py) out of the walk that the kit's printer made; turned where it fell. -/
-- PRINTED by print.py (a twelfth state) out of the translation. Not trusted: Lean checks it.
import Derived.Test.YtjojmfhgfeflnaaGreatDoorMapObj
import Derived.Test.YtjojmfhgfeflnaaGreatDoorQFnExactInnerx0
import Derived.Test.YtjojmfhgfeflnaaGreatDoorQFnExactInnerx8
namespace Go.Proofs.YtjojmfhgfeflnaaGreatDoor.QFnExactInner
open Go.RowKit Go.Proofs.YtjojmfhgfeflnaaGreatDoorV.PrintWords Go.Proofs.YtjojmfhgfeflnaaGreatDoorV.PrintLast Go.Proofs.YtjojmfhgfeflnaaGreatDoorV.PrintMore
attribute [local go_sem] max2_int min2_int max_two min_two max_three min_three max_four min_four   -- for this text's walks alone
open Go.Proofs.YtjojmfhgfeflnaaGreatDoor.MapObj
set_option linter.unusedVariables false
set_option linter.unusedSimpArgs false
private theorem zero_bool {W:World}:(zeroValue 4).run Tryz.prog W=.ok (.bool false) W:=by kernel_rfl
/-! ### impl_TreeOk: function 16 -/
mutual
def impl_TreeOk.j0:Nat→Bool→List (S57)→Option (Bool)
 |0,_,_=>none
 |k+1,x18,x263000=>if x18=true then (some false) else (impl_TreeOk.l0 k ([]:List Int) (([]:List Int)) x263000 (x263000.length:Int) 0)
def impl_TreeOk.l0:Nat→List Int→List Int→List (S57)→Int→Int→Option (Bool)
 |0,_,_,_,_,_=>none
 |k+1,x3,x4,x22,x23,x24=>if x24<x23 then (if 0≤x24 then (if x24<(x22.length:Int) then ((impl_nodeRight.f k ((rd_T57 x22 x24).f0) ((rd_T57 x22 x24).f1) ((rd_T57 x22 x24).f2) ((rd_T57 x22 x24).f3) ((rd_T57 x22 x24).f4) ((rd_T57 x22 x24).f5) (x24==0)).bind fun t268=>(if t268=true then (impl_TreeOk.j2 k x3 x4 x24 x22 x23 x24 (smem x3 ((rd_T57 x22 x24).f0)) ((rd_T57 x22 x24).f0) ((rd_T57 x22 x24).f1) ((rd_T57 x22 x24).f2) ((rd_T57 x22 x24).f3) ((rd_T57 x22 x24).f4) ((rd_T57 x22 x24).f5)) else (impl_TreeOk.j2 k x3 x4 x24 x22 x23 x24 true ((rd_T57 x22 x24).f0) ((rd_T57 x22 x24).f1) ((rd_T57 x22 x24).f2) ((rd_T57 x22 x24).f3) ((rd_T57 x22 x24).f4) ((rd_T57 x22 x24).f5)))) else (none)) else (none)) else (impl_TreeOk.l2 k x4 (x4.length:Int) 0)
def impl_TreeOk.j2:Nat→List Int→List Int→Int→List (S57)→Int→Int→Bool→Int→Int→ByteArray→List (S77)→ByteArray→Int→Option (Bool)
 |0,_,_,_,_,_,_,_,_,_,_,_,_,_=>none
 |k+1,x3,x4,x5,x22,x23,x24,x39,x268000,x268001,x268002,x268003,x268004,x268005=>if x39=true then (some false) else (impl_TreeOk.l1 k (x268000::x3) x4 x5 x22 x23 x24 x268000 x268001 x268002 x268003 x268004 x268005)
def impl_TreeOk.j4:Nat→List Int→List Int→Int→List (S57)→Int→Int→Int→Int→ByteArray→List (S77)→ByteArray→Int→Option (Bool)
 |0,_,_,_,_,_,_,_,_,_,_,_,_=>none
 |k+1,x3,x4,x5,x22,x23,x24,x268000,x268001,x268002,x268003,x268004,x268005=>if x5 > 0 then (if (x4.length:Int)=0 then (impl_TreeOk.j5 k x3 x4 x22 x23 x24 true x268000 x268001 x268002 x268003 x268004 x268005) else (impl_TreeOk.j5 k x3 x4 x22 x23 x24 (decide ((x4.length:Int) > 400)) x268000 x268001 x268002 x268003 x268004 x268005)) else (impl_TreeOk.j5 k x3 x4 x22 x23 x24 (decide ((x4.length:Int) > 400)) x268000 x268001 x268002 x268003 x268004 x268005)
def impl_TreeOk.j5:Nat→List Int→List Int→List (S57)→Int→Int→Bool→Int→Int→ByteArray→List (S77)→ByteArray→Int→Option (Bool)
 |0,_,_,_,_,_,_,_,_,_,_,_,_=>none
 |k+1,x3,x4,x22,x23,x24,x71,x268000,x268001,x268002,x268003,x268004,x268005=>if x71=true then (some false) else (if (x4.length:Int) > 0 then (if 0≤(wrap64 ((x4.length:Int) - 1)) then (if (wrap64 ((x4.length:Int) - 1))<(x4.length:Int) then ((some (x4.set ((wrap64 ((x4.length:Int) - 1)):Int).toNat (wrap64 ((rd x4 (wrap64 ((x4.length:Int) - 1))) - 1)):List Int)).bind fun y274=>(if y274.length<17592186044416 then (impl_TreeOk.l0 k x3 (y274++[x268005]) x22 x23 (wrap64 (x24+1))) else (none))) else (none)) else (none)) else (if x4.length<17592186044416 then (impl_TreeOk.l0 k x3 (x4++[x268005]) x22 x23 (wrap64 (x24+1))) else (none)))
def impl_TreeOk.l1:Nat→List Int→List Int→Int→List (S57)→Int→Int→Int→Int→ByteArray→List (S77)→ByteArray→Int→Option (Bool)
 |0,_,_,_,_,_,_,_,_,_,_,_,_=>none
 |k+1,x3,x4,x5,x22,x23,x24,x268000,x268001,x268002,x268003,x268004,x268005=>if (x4.length:Int) > 0 then (if 0≤(wrap64 ((x4.length:Int) - 1)) then (if (wrap64 ((x4.length:Int) - 1))<(x4.length:Int) then (if (rd x4 (wrap64 ((x4.length:Int) - 1)))=0 then (if (wrap64 ((x4.length:Int) - 1))≤(x4.length:Int) then (impl_TreeOk.l1 k x3 (x4.take ((wrap64 ((x4.length:Int) - 1)):Int).toNat) x5 x22 x23 x24 x268000 x268001 x268002 x268003 x268004 x268005) else (none)) else (impl_TreeOk.j4 k x3 x4 x5 x22 x23 x24 x268000 x268001 x268002 x268003 x268004 x268005)) else (none)) else (none)) else (impl_TreeOk.j4 k x3 x4 x5 x22 x23 x24 x268000 x268001 x268002 x268003 x268004 x268005)
def impl_TreeOk.l2:Nat→List Int→Int→Int→Option (Bool)
 |0,_,_,_=>none
 |k+1,x89,x90,x91=>if x91<x90 then (if 0≤x91 then (if x91<(x89.length:Int) then (if (rd x89 x91)=0 then (impl_TreeOk.l2 k x89 x90 (wrap64 (x91+1))) else (some false)) else (none)) else (none)) else (some true)
end
def impl_TreeOk.f (k:Nat) (l0_0:List (S57)):Option (Bool):=if (l0_0.length:Int)=0 then (impl_TreeOk.j0 k true l0_0) else (impl_TreeOk.j0 k (decide ((l0_0.length:Int) > 4000)) l0_0)
theorem impl_TreeOk.mono_l:∀ k,(∀ y0 y1,LeO (impl_TreeOk.j0 k y0 y1) (impl_TreeOk.j0 (k+1) y0 y1))∧(∀ y0 y1 y2 y3 y4,LeO (impl_TreeOk.l0 k y0 y1 y2 y3 y4) (impl_TreeOk.l0 (k+1) y0 y1 y2 y3 y4))∧(∀ y0 y1 y2 y3 y4 y5 y6 y7 y8 y9 y10 y11 y12,LeO (impl_TreeOk.j2 k y0 y1 y2 y3 y4 y5 y6 y7 y8 y9 y10 y11 y12) (impl_TreeOk.j2 (k+1) y0 y1 y2 y3 y4 y5 y6 y7 y8 y9 y10 y11 y12))∧(∀ y0 y1 y2 y3 y4 y5 y6 y7 y8 y9 y10 y11,LeO (impl_TreeOk.j4 k y0 y1 y2 y3 y4 y5 y6 y7 y8 y9 y10 y11) (impl_TreeOk.j4 (k+1) y0 y1 y2 y3 y4 y5 y6 y7 y8 y9 y10 y11))∧(∀ y0 y1 y2 y3 y4 y5 y6 y7 y8 y9 y10 y11,LeO (impl_TreeOk.j5 k y0 y1 y2 y3 y4 y5 y6 y7 y8 y9 y10 y11) (impl_TreeOk.j5 (k+1) y0 y1 y2 y3 y4 y5 y6 y7 y8 y9 y10 y11))∧(∀ y0 y1 y2 y3 y4 y5 y6 y7 y8 y9 y10 y11,LeO (impl_TreeOk.l1 k y0 y1 y2 y3 y4 y5 y6 y7 y8 y9 y10 y11) (impl_TreeOk.l1 (k+1) y0 y1 y2 y3 y4 y5 y6 y7 y8 y9 y10 y11))∧(∀ y0 y1 y2,LeO (impl_TreeOk.l2 k y0 y1 y2) (impl_TreeOk.l2 (k+1) y0 y1 y2))
 |0=>⟨fun _ _ r h=>by simp [impl_TreeOk.j0] at h,fun _ _ _ _ _ r h=>by simp [impl_TreeOk.l0] at h,fun _ _ _ _ _ _ _ _ _ _ _ _ _ r h=>by simp [impl_TreeOk.j2] at h,fun _ _ _ _ _ _ _ _ _ _ _ _ r h=>by simp [impl_TreeOk.j4] at h,fun _ _ _ _ _ _ _ _ _ _ _ _ r h=>by simp [impl_TreeOk.j5] at h,fun _ _ _ _ _ _ _ _ _ _ _ _ r h=>by simp [impl_TreeOk.l1] at h,fun _ _ _ r h=>by simp [impl_TreeOk.l2] at h⟩
 |k+1=>by
  obtain ⟨ih0,ih1,ih2,ih3,ih4,ih5,ih6⟩:=impl_TreeOk.mono_l k
  refine ⟨?_,?_,?_,?_,?_,?_,?_⟩
  ·intro y0 y1
   unfold impl_TreeOk.j0
   repeat' first
   |(with_reducible exact ih0 _ _)
   |(with_reducible exact ih1 _ _ _ _ _)
   |(with_reducible exact ih2 _ _ _ _ _ _ _ _ _ _ _ _ _)
   |(with_reducible exact ih3 _ _ _ _ _ _ _ _ _ _ _ _)
   |(with_reducible exact ih4 _ _ _ _ _ _ _ _ _ _ _ _)
   |(with_reducible exact ih5 _ _ _ _ _ _ _ _ _ _ _ _)
   |(with_reducible exact ih6 _ _ _)
   |(with_reducible exact impl_nodeRight.mono _ _ _ _ _ _ _ _)
   |(with_reducible exact LeO.refl _)
   |(with_reducible exact LeO.none _)
   |(with_reducible refine LeO.ite ?_ ?_)
   |(with_reducible refine LeO.bind ?_ (fun _=>?_))
   |exact ih0 _ _
   |exact ih1 _ _ _ _ _
   |exact ih2 _ _ _ _ _ _ _ _ _ _ _ _ _
   |exact ih3 _ _ _ _ _ _ _ _ _ _ _ _
   |exact ih4 _ _ _ _ _ _ _ _ _ _ _ _
   |exact ih5 _ _ _ _ _ _ _ _ _ _ _ _
   |exact ih6 _ _ _
   |exact impl_nodeRight.mono _ _ _ _ _ _ _ _
   |exact LeO.none _
   |refine LeO.ite ?_ ?_
   |refine LeO.bind ?_ (fun _=>?_)
  ·intro y0 y1 y2 y3 y4
   unfold impl_TreeOk.l0
   repeat' first
   |(with_reducible exact ih0 _ _)
   |(with_reducible exact ih1 _ _ _ _ _)
   |(with_reducible exact ih2 _ _ _ _ _ _ _ _ _ _ _ _ _)
   |(with_reducible exact ih3 _ _ _ _ _ _ _ _ _ _ _ _)
   |(with_reducible exact ih4 _ _ _ _ _ _ _ _ _ _ _ _)
   |(with_reducible exact ih5 _ _ _ _ _ _ _ _ _ _ _ _)
   |(with_reducible exact ih6 _ _ _)
   |(with_reducible exact impl_nodeRight.mono _ _ _ _ _ _ _ _)
   |(with_reducible exact LeO.refl _)
   |(with_reducible exact LeO.none _)
   |(with_reducible refine LeO.ite ?_ ?_)
   |(with_reducible refine LeO.bind ?_ (fun _=>?_))
   |exact ih0 _ _
   |exact ih1 _ _ _ _ _
   |exact ih2 _ _ _ _ _ _ _ _ _ _ _ _ _
   |exact ih3 _ _ _ _ _ _ _ _ _ _ _ _
   |exact ih4 _ _ _ _ _ _ _ _ _ _ _ _
   |exact ih5 _ _ _ _ _ _ _ _ _ _ _ _
   |exact ih6 _ _ _
   |exact impl_nodeRight.mono _ _ _ _ _ _ _ _
   |exact LeO.none _
   |refine LeO.ite ?_ ?_
   |refine LeO.bind ?_ (fun _=>?_)
  ·intro y0 y1 y2 y3 y4 y5 y6 y7 y8 y9 y10 y11 y12
   unfold impl_TreeOk.j2
   repeat' first
   |(with_reducible exact ih0 _ _)
   |(with_reducible exact ih1 _ _ _ _ _)
   |(with_reducible exact ih2 _ _ _ _ _ _ _ _ _ _ _ _ _)
   |(with_reducible exact ih3 _ _ _ _ _ _ _ _ _ _ _ _)
   |(with_reducible exact ih4 _ _ _ _ _ _ _ _ _ _ _ _)
   |(with_reducible exact ih5 _ _ _ _ _ _ _ _ _ _ _ _)
   |(with_reducible exact ih6 _ _ _)
   |(with_reducible exact impl_nodeRight.mono _ _ _ _ _ _ _ _)
   |(with_reducible exact LeO.refl _)
   |(with_reducible exact LeO.none _)
   |(with_reducible refine LeO.ite ?_ ?_)
   |(with_reducible refine LeO.bind ?_ (fun _=>?_))
   |exact ih0 _ _
   |exact ih1 _ _ _ _ _
   |exact ih2 _ _ _ _ _ _ _ _ _ _ _ _ _
   |exact ih3 _ _ _ _ _ _ _ _ _ _ _ _
   |exact ih4 _ _ _ _ _ _ _ _ _ _ _ _
   |exact ih5 _ _ _ _ _ _ _ _ _ _ _ _
   |exact ih6 _ _ _
   |exact impl_nodeRight.mono _ _ _ _ _ _ _ _
   |exact LeO.none _
   |refine LeO.ite ?_ ?_
   |refine LeO.bind ?_ (fun _=>?_)
  ·intro y0 y1 y2 y3 y4 y5 y6 y7 y8 y9 y10 y11
   unfold impl_TreeOk.j4
   repeat' first
   |(with_reducible exact ih0 _ _)
   |(with_reducible exact ih1 _ _ _ _ _)
   |(with_reducible exact ih2 _ _ _ _ _ _ _ _ _ _ _ _ _)
   |(with_reducible exact ih3 _ _ _ _ _ _ _ _ _ _ _ _)
   |(with_reducible exact ih4 _ _ _ _ _ _ _ _ _ _ _ _)
   |(with_reducible exact ih5 _ _ _ _ _ _ _ _ _ _ _ _)
   |(with_reducible exact ih6 _ _ _)
   |(with_reducible exact impl_nodeRight.mono _ _ _ _ _ _ _ _)
   |(with_reducible exact LeO.refl _)
   |(with_reducible exact LeO.none _)
   |(with_reducible refine LeO.ite ?_ ?_)
   |(with_reducible refine LeO.bind ?_ (fun _=>?_))
   |exact ih0 _ _
   |exact ih1 _ _ _ _ _
   |exact ih2 _ _ _ _ _ _ _ _ _ _ _ _ _
   |exact ih3 _ _ _ _ _ _ _ _ _ _ _ _
   |exact ih4 _ _ _ _ _ _ _ _ _ _ _ _
   |exact ih5 _ _ _ _ _ _ _ _ _ _ _ _
   |exact ih6 _ _ _
   |exact impl_nodeRight.mono _ _ _ _ _ _ _ _
   |exact LeO.none _
   |refine LeO.ite ?_ ?_
   |refine LeO.bind ?_ (fun _=>?_)
  ·intro y0 y1 y2 y3 y4 y5 y6 y7 y8 y9 y10 y11
   unfold impl_TreeOk.j5
   repeat' first
   |(with_reducible exact ih0 _ _)
   |(with_reducible exact ih1 _ _ _ _ _)
   |(with_reducible exact ih2 _ _ _ _ _ _ _ _ _ _ _ _ _)
   |(with_reducible exact ih3 _ _ _ _ _ _ _ _ _ _ _ _)
   |(with_reducible exact ih4 _ _ _ _ _ _ _ _ _ _ _ _)
   |(with_reducible exact ih5 _ _ _ _ _ _ _ _ _ _ _ _)
   |(with_reducible exact ih6 _ _ _)
   |(with_reducible exact impl_nodeRight.mono _ _ _ _ _ _ _ _)
   |(with_reducible exact LeO.refl _)
   |(with_reducible exact LeO.none _)
   |(with_reducible refine LeO.ite ?_ ?_)
   |(with_reducible refine LeO.bind ?_ (fun _=>?_))
   |exact ih0 _ _
   |exact ih1 _ _ _ _ _
   |exact ih2 _ _ _ _ _ _ _ _ _ _ _ _ _
   |exact ih3 _ _ _ _ _ _ _ _ _ _ _ _
   |exact ih4 _ _ _ _ _ _ _ _ _ _ _ _
   |exact ih5 _ _ _ _ _ _ _ _ _ _ _ _
   |exact ih6 _ _ _
   |exact impl_nodeRight.mono _ _ _ _ _ _ _ _
   |exact LeO.none _
   |refine LeO.ite ?_ ?_
   |refine LeO.bind ?_ (fun _=>?_)
  ·intro y0 y1 y2 y3 y4 y5 y6 y7 y8 y9 y10 y11
   unfold impl_TreeOk.l1
   repeat' first
   |(with_reducible exact ih0 _ _)
   |(with_reducible exact ih1 _ _ _ _ _)
   |(with_reducible exact ih2 _ _ _ _ _ _ _ _ _ _ _ _ _)
   |(with_reducible exact ih3 _ _ _ _ _ _ _ _ _ _ _ _)
   |(with_reducible exact ih4 _ _ _ _ _ _ _ _ _ _ _ _)
   |(with_reducible exact ih5 _ _ _ _ _ _ _ _ _ _ _ _)
   |(with_reducible exact ih6 _ _ _)
   |(with_reducible exact impl_nodeRight.mono _ _ _ _ _ _ _ _)
   |(with_reducible exact LeO.refl _)
   |(with_reducible exact LeO.none _)
   |(with_reducible refine LeO.ite ?_ ?_)
   |(with_reducible refine LeO.bind ?_ (fun _=>?_))
   |exact ih0 _ _
   |exact ih1 _ _ _ _ _
   |exact ih2 _ _ _ _ _ _ _ _ _ _ _ _ _
   |exact ih3 _ _ _ _ _ _ _ _ _ _ _ _
   |exact ih4 _ _ _ _ _ _ _ _ _ _ _ _
   |exact ih5 _ _ _ _ _ _ _ _ _ _ _ _
   |exact ih6 _ _ _
   |exact impl_nodeRight.mono _ _ _ _ _ _ _ _
   |exact LeO.none _
   |refine LeO.ite ?_ ?_
   |refine LeO.bind ?_ (fun _=>?_)
  ·intro y0 y1 y2
   unfold impl_TreeOk.l2
   repeat' first
   |(with_reducible exact ih0 _ _)
   |(with_reducible exact ih1 _ _ _ _ _)
   |(with_reducible exact ih2 _ _ _ _ _ _ _ _ _ _ _ _ _)
   |(with_reducible exact ih3 _ _ _ _ _ _ _ _ _ _ _ _)
   |(with_reducible exact ih4 _ _ _ _ _ _ _ _ _ _ _ _)
   |(with_reducible exact ih5 _ _ _ _ _ _ _ _ _ _ _ _)
   |(with_reducible exact ih6 _ _ _)
   |(with_reducible exact impl_nodeRight.mono _ _ _ _ _ _ _ _)
   |(with_reducible exact LeO.refl _)
   |(with_reducible exact LeO.none _)
   |(with_reducible refine LeO.ite ?_ ?_)
   |(with_reducible refine LeO.bind ?_ (fun _=>?_))
   |exact ih0 _ _
   |exact ih1 _ _ _ _ _
   |exact ih2 _ _ _ _ _ _ _ _ _ _ _ _ _
   |exact ih3 _ _ _ _ _ _ _ _ _ _ _ _
   |exact ih4 _ _ _ _ _ _ _ _ _ _ _ _
   |exact ih5 _ _ _ _ _ _ _ _ _ _ _ _
   |exact ih6 _ _ _
   |exact impl_nodeRight.mono _ _ _ _ _ _ _ _
   |exact LeO.none _
   |refine LeO.ite ?_ ?_
   |refine LeO.bind ?_ (fun _=>?_)
theorem impl_TreeOk.mono:∀ a0 k,LeO (impl_TreeOk.f k a0) (impl_TreeOk.f (k+1) a0):=by
 intro a0 k
 obtain ⟨ih0,ih1,ih2,ih3,ih4,ih5,ih6⟩:=impl_TreeOk.mono_l k
 unfold impl_TreeOk.f
 repeat' first
   |(with_reducible exact ih0 _ _)
   |(with_reducible exact ih1 _ _ _ _ _)
   |(with_reducible exact ih2 _ _ _ _ _ _ _ _ _ _ _ _ _)
   |(with_reducible exact ih3 _ _ _ _ _ _ _ _ _ _ _ _)
   |(with_reducible exact ih4 _ _ _ _ _ _ _ _ _ _ _ _)
   |(with_reducible exact ih5 _ _ _ _ _ _ _ _ _ _ _ _)
   |(with_reducible exact ih6 _ _ _)
   |(with_reducible exact impl_nodeRight.mono _ _ _ _ _ _ _ _)
   |(with_reducible exact LeO.refl _)
   |(with_reducible exact LeO.none _)
   |(with_reducible refine LeO.ite ?_ ?_)
   |(with_reducible refine LeO.bind ?_ (fun _=>?_))
   |exact ih0 _ _
   |exact ih1 _ _ _ _ _
   |exact ih2 _ _ _ _ _ _ _ _ _ _ _ _ _
   |exact ih3 _ _ _ _ _ _ _ _ _ _ _ _
   |exact ih4 _ _ _ _ _ _ _ _ _ _ _ _
   |exact ih5 _ _ _ _ _ _ _ _ _ _ _ _
   |exact ih6 _ _ _
   |exact impl_nodeRight.mono _ _ _ _ _ _ _ _
   |exact LeO.none _
   |refine LeO.ite ?_ ?_
   |refine LeO.bind ?_ (fun _=>?_)
set_option maxHeartbeats 8000000 in
set_option maxRecDepth 100000 in
theorem impl_TreeOk.calls (k:Nat) (A0_0:Option Addr) (c0_0:Nat) (l0_0:List (S57)) (r:Bool) (w:World) (hr0_0:Kd.C k57 w A0_0 l0_0.length l0_0) (hc0_0:l0_0.length≤c0_0) (h:impl_TreeOk.f k l0_0=some r) :
  Calls Tryz.prog 16 #[.agg #[.slice A0_0 l0_0.length c0_0]] w fun e w'=>e=.returned (.bool r)∧Below w.heap.size w w':=by
 have hu29:=Tryz.underlying29
 have hu57:=Tryz.underlying57
 have HR0_0:=Aside0.mk hr0_0
 have HC0_0:=Aside0.mk hc0_0
 clear hr0_0 hc0_0
 have HB:=Aside0.mk (Below.refl w.heap.size w)
 have H:(if (l0_0.length:Int)=0 then (impl_TreeOk.j0 k true l0_0) else (impl_TreeOk.j0 k (decide ((l0_0.length:Int) > 4000)) l0_0))=some r:=h
 clear h
 have HC2:=Aside0.mk H
 clear H
 go_enter Tryz.func16,Tryz.ntmps16
 go_upto_region 1 with (first|((with_reducible refine gate_dst (N:=1) rfl ?_);(try (refine gate_guard (by rfl) ?_;dsimp only));refine box_event ?hg (N:=1) ?hd (cs:=#[.slice A0_0 l0_0.length c0_0]) (t:=29) ?hr ?_;(case hd=>rfl);(case hg=>rfl);(case hr=>first|(go_simp;done)|(go_simp;rfl));intro gb262 hg w3 hbox hb;have n0_:=Aside0.mk (below_step (by repeat (first|(with_reducible first|exact HB.out|apply below_alloc|apply pw_below_drewN|apply below_drew1)|exact HB.out)) hb);have n1_:=Aside0.mk (hbox);have n2_:=Aside0.mk ((by rw [hg];exact (below_size (by repeat (first|(with_reducible first|exact HB.out|apply below_alloc|apply pw_below_drewN|apply below_drew1)|exact HB.out))):w.heap.size≤gb262));have n3_:=Aside0.mk ((by rw [hg];exact (below_size (by repeat (first|(with_reducible first|exact HB.out|apply below_alloc|apply pw_below_drewN|apply below_drew1)|exact HB.out))):w.heap.size≤gb262));clear HB;have HB:=n0_;have BK262:=n1_;have GW262:=n2_;have GE262:=n3_;clear n0_ n1_ n2_ n3_;clear hb hbox hg))
 (try simp only [Act.put,List.setIfInBounds_toArray,List.set_cons_zero,List.set_cons_succ])
 go_cut [18] (fun v18 wc=>∃ (kq:Nat) (x18_1:Bool),v18=.bool x18_1∧Aside0 (impl_TreeOk.j0 kq x18_1 l0_0=some r)∧Aside0 (kq≤k)∧Aside0 (wc.heap[gb262]?=some (.cells #[(.slice A0_0 l0_0.length c0_0)] 29 (0,0)))∧Aside0 (Below w.heap.size w wc))
 case first=>
  have H:=HC2.out
  clear HC2
  by_cases c4:(l0_0.length:Int)=0
  ·rw [if_pos c4] at H
   have c4b0:((l0_0.length:Int)==0)=true:=beq_iff_eq.mpr c4
   have c4b1:((l0_0.length:Int) != 0)=false:=bne_eq_false_iff_eq.mpr c4
   clear c4
   (first|rw [c4b0]|(simp only [i64_w,i32_w];rw [c4b0])|rw [c4b1]|skip)
   have H':=Aside0.mk H
   clear H
   have hcz5_0:w3.cell? ⟨gb262,0,none⟩=some (.slice A0_0 l0_0.length c0_0):=(blk_cell BK262.out 0).trans rfl
   have hfz5_0:=blk_frozen BK262.out 0
   go_wp2
   go_meet
   case rel=>exact ⟨_,(true),(by first|rfl|(simp;done)|(simp [*];done)),H',⟨by first|omega|exact Nat.le_refl _⟩,⟨by (with_reducible repeat (first|refine blk_drewN ?_ _|refine blk_drew ?_|refine blk_alloc ?_ _));exact BK262.out⟩,⟨by repeat (first|(with_reducible first|exact HB.out|apply below_alloc|apply pw_below_drewN|apply below_drew1|refine below_set ?_ GE262.out)|exact HB.out)⟩⟩
  ·rw [if_neg c4] at H
   have c4b0:((l0_0.length:Int)==0)=false:=beq_eq_false_iff_ne.mpr c4
   have c4b1:((l0_0.length:Int) != 0)=true:=bne_iff_ne.mpr c4
   have c4b2:¬ (l0_0=[]):=fun h_=>c4 (by rw [h_];rfl)
   (first|rw [c4b0]|(simp only [i64_w,i32_w];rw [c4b0])|rw [c4b1]|skip)
   have H':=Aside0.mk H
   clear H
   have hcz6_0:w3.cell? ⟨gb262,0,none⟩=some (.slice A0_0 l0_0.length c0_0):=(blk_cell BK262.out 0).trans rfl
   have hfz6_0:=blk_frozen BK262.out 0
   go_wp2
   go_meet
   case rel=>exact ⟨_,(decide ((l0_0.length:Int) > 4000)),(by first|rfl|(simp;done)|(simp [*];done)),H',⟨by first|omega|exact Nat.le_refl _⟩,⟨by (with_reducible repeat (first|refine blk_drewN ?_ _|refine blk_drew ?_|refine blk_alloc ?_ _));exact BK262.out⟩,⟨by repeat (first|(with_reducible first|exact HB.out|apply below_alloc|apply pw_below_drewN|apply below_drew1|refine below_set ?_ GE262.out)|exact HB.out)⟩⟩
 case rest=>
  clear HC2
  try clear c1
  try clear p2
  try clear c4
  try clear c4b0
  try clear c4b1
  try clear c4b2
  try clear hcz5_0
  try clear hcz6_0
  try clear hfz5_0
  try clear hfz6_0
  obtain ⟨kq,x18_1,rfl,HA,HJ1,BK262,HB⟩:=hcut
  cases kq with
  |zero=>exact absurd HA.out (by simp [impl_TreeOk.j0])
  |succ kj1=>
   have H:=HA.out
   clear HA
   simp only [impl_TreeOk.j0] at H
   by_cases c7:x18_1=true
   ·subst c7
    have H1:(some false)=some r:=by rw [if_pos rfl] at H;exact H
    clear H
    have H:=H1
    clear H1
    obtain rfl:=Option.some.inj H
    go_wp2
    go_ret
    exact ⟨by first|rfl|(simp [errW_none,errW_some]<;>rfl)|(simp [*,errW_none,errW_some]<;>rfl),by repeat (first|(with_reducible first|exact HB.out|apply below_alloc|apply pw_below_drewN|apply below_drew1|refine below_set ?_ GE262.out)|exact HB.out)⟩
   ·replace c7:=Bool.eq_false_iff.mpr c7
    subst c7
    have H1:(impl_TreeOk.l0 kj1 ([]:List Int) (([]:List Int)) l0_0 (l0_0.length:Int) 0)=some r:=by rw [if_neg (show ¬ (false=true) by decide)] at H;exact H
    clear H
    have H:=H1
    clear H1
    obtain ⟨y263,hy263⟩:∃ y_:List Int,y_=(([]:List Int)):=⟨_,rfl⟩
    replace H:(impl_TreeOk.l0 kj1 ([]:List Int) y263 l0_0 (l0_0.length:Int) 0)=some r:=by first|(rw [hy263];with_reducible exact H)|(have H2_:=(Option.bind_some _ _).symm.trans H;rw [hy263];with_reducible exact H2_)|(have H2_:=(Option.bind_some _ _).symm.trans H;with_reducible exact H2_)|with_reducible exact H|(rw [hy263];exact H)|exact H
    have Ny263:=Aside0.mk hy263
    clear hy263
    have H':=Aside0.mk H
    clear H
    have hmm:=@run_makeMap Tryz.prog
    go_wp2_with (first|((with_reducible refine gate_dst (N:=19) rfl ?_);refine make_event ?hg (N:=19) ?hd ?hr ?_;(case hd=>rfl);(case hg=>rfl);(case hr=>first|(go_simp;done)|(go_simp;rfl));intro gm hg wM hbox hb;have n0_:=Aside0.mk (below_step (by repeat (first|(with_reducible first|exact HB.out|apply below_alloc|apply pw_below_drewN|apply below_drew1|refine below_set ?_ GE262.out)|exact HB.out)) hb);have n1_:=Aside0.mk (blk_below (g:=gb262) (o:=.cells #[.slice A0_0 l0_0.length c0_0] 29 (0,0)) (by (with_reducible repeat (first|refine blk_drewN ?_ _|refine blk_drew ?_|refine blk_alloc ?_ _));exact BK262.out) hb);have n2_:=Aside0.mk (show wM.heap[gm]?=some (sobj (Value.int .i64) (([]:List Int))) from hbox);have n3_:=Aside0.mk ((by rw [hg];exact (below_size (by repeat (first|(with_reducible first|exact HB.out|apply below_alloc|apply pw_below_drewN|apply below_drew1|refine below_set ?_ GE262.out)|exact HB.out)))):w.heap.size≤gm);clear BK262 HB;have HB:=n0_;have BK262:=n1_;have BKM:=n2_;have GEM:=n3_;clear n0_ n1_ n2_ n3_;clear hb hbox hg)|((with_reducible refine gate_dst (N:=20) rfl ?_);(try (refine gate_guard (by rfl) ?_;dsimp only));refine Kd.R_lit (Kd.int .i64) _ 3 ?hg (N:=20) ?hd (xs:=([]:List Int)) (inner:=[]) (ok:=fun _=>True) (okp:=fun _=>True) ?hr ?hp (fun _ hk=>hk) trivial (Below.refl _ _) (Nat.le_refl _) (by simp) ?_;(case hd=>rfl);(case hg=>rfl);(case hr=>first|(go_simp;done)|(go_simp;rfl));(case hp=>exact (Reps.none _ _));intro v264 w8 ho9 hb hg_ hnew_;clear hg_ hnew_;(first|rw [← Ny263.out] at ho9|(simp only [Int.reduceToNat] at ho9;rw [← Ny263.out] at ho9));have n0_:=Aside0.mk (Kd.R_lower ho9 (below_size (by repeat (first|(with_reducible first|exact HB.out|apply below_alloc|apply pw_below_drewN|apply below_drew1|refine below_set ?_ GE262.out)|exact HB.out))));have n1_:=Aside0.mk (blk_below (g:=gb262) (o:=.cells #[.slice A0_0 l0_0.length c0_0] 29 (0,0)) (by (with_reducible repeat (first|refine blk_drewN ?_ _|refine blk_drew ?_|refine blk_alloc ?_ _));exact BK262.out) hb);have m1_:=Aside0.mk (blk_below (g:=gm) (o:=sobj (Value.int .i64) (([]:List Int))) (by (with_reducible repeat (first|refine blk_drewN ?_ _|refine blk_drew ?_|refine blk_alloc ?_ _));exact BKM.out) hb);have n2_:=Aside0.mk (below_step (by repeat (first|(with_reducible first|exact HB.out|apply below_alloc|apply pw_below_drewN|apply below_drew1|refine below_set ?_ GE262.out)|exact HB.out)) hb);clear BK262;clear BKM;clear HB;have HO265:=n0_;have BK262:=n1_;have BKM:=m1_;have HB:=n2_;clear n0_ n1_ n2_;(try clear m1_);clear hb ho9;have hcz10_0:w8.cell? ⟨gb262,0,none⟩=some (.slice A0_0 l0_0.length c0_0):=(blk_cell BK262.out 0).trans rfl;have hfz10_0:=blk_frozen BK262.out 0))
    clear hmm
    go_loopg [4,24] kj1 (fun kq v4 v24 w'=>∃ (x3_2:List Int) (x4_2:List Int) (x24_2:Int),v24=.int .i64 x24_2∧Aside0 (impl_TreeOk.l0 kq x3_2 x4_2 l0_0 (l0_0.length:Int) x24_2=some r)∧Aside0 (kq≤kj1)∧Aside0 (Kd.R (Kd.int .i64) 3 w' w.heap.size (fun _=>True) v4 x4_2)∧Aside0 (w'.heap[gb262]?=some (.cells #[(.slice A0_0 l0_0.length c0_0)] 29 (0,0)))∧Aside0 (w'.heap[gm]?=some (sobj (Value.int .i64) (x3_2)))∧Aside0 (Below w.heap.size w w'))
    case atStart=>exact ⟨([]:List Int),(y263),(0),(by first|rfl|(simp;done)|(simp [*];done)),H',⟨Nat.le_refl _⟩,⟨by (with_reducible repeat (first|apply Kd.R_alloc|apply Kd.R_drewN|apply Kd.R_drew));exact HO265.out⟩,⟨by (with_reducible repeat (first|refine blk_drewN ?_ _|refine blk_drew ?_|refine blk_alloc ?_ _));exact BK262.out⟩,⟨by (with_reducible repeat (first|exact BKM.out|refine blk_drewN ?_ _|refine blk_drew ?_|refine blk_alloc ?_ _))⟩,⟨by repeat (first|(with_reducible first|exact HB.out|apply below_alloc|apply pw_below_drewN|apply below_drew1|refine below_set ?_ GE262.out)|exact HB.out)⟩⟩
    case round=>
     clear H'
     try clear c1
     try clear p2
     try clear c4
     try clear c4b0
     try clear c4b1
     try clear c4b2
     try clear c7
     try clear hcz10_0
     try clear hcz5_0
     try clear hcz6_0
     try clear hfz10_0
     try clear hfz5_0
     try clear hfz6_0
     try clear p2
     obtain ⟨x3_2,x4_2,x24_2,rfl,HA,HK2,HO_4,BK262,BKM,HB⟩:=hrel
     cases gk with
     |zero=>exact absurd HA.out (by simp [impl_TreeOk.l0])
     |succ k2=>
      have H:=HA.out
      clear HA
      simp only [impl_TreeOk.l0] at H
      by_cases c11:x24_2<(l0_0.length:Int)
      ·rw [if_pos c11] at H
       have c11b0:decide (x24_2<(l0_0.length:Int))=true:=decide_eq_true c11
       clear c11
       by_cases c12:0≤x24_2
       ·rw [if_pos c12] at H
        have c12b0:decide (0≤x24_2)=true:=decide_eq_true c12
        clear c12
        by_cases c13:x24_2<(l0_0.length:Int)
        ·rw [if_pos c13] at H
         have c13b0:decide (x24_2<(l0_0.length:Int))=true:=decide_eq_true c13
         clear c13
         have HC14:=Aside0.mk H
         clear H
         have p266:0≤(x24_2:Int):=of_decide_eq_true (by first|(with_reducible assumption)|assumption)
         have q266:x24_2<(l0_0.length:Int):=of_decide_eq_true (by first|(with_reducible assumption)|assumption)
         obtain ⟨ad266,A266_3,c266_3,e266,hx266_0,hx266_1,hx266_2,hx266_3,hx266_4,hx266_5,hl266_3,hi266_3⟩:=at_T57 HR0_0.out x24_2 p266 q266
         cases e266
         replace hx266_0:=(HB.out.cell (World.block_lt_of_cell? w _ hx266_0)).trans hx266_0
         replace hx266_1:=(HB.out.cell (World.block_lt_of_cell? w _ hx266_1)).trans hx266_1
         replace hx266_2:=(HB.out.cell (World.block_lt_of_cell? w _ hx266_2)).trans hx266_2
         replace hx266_3:=(HB.out.cell (World.block_lt_of_cell? w _ hx266_3)).trans hx266_3
         replace hx266_4:=(HB.out.cell (World.block_lt_of_cell? w _ hx266_4)).trans hx266_4
         replace hx266_5:=(HB.out.cell (World.block_lt_of_cell? w _ hx266_5)).trans hx266_5
         have HR266_3:=Aside0.mk hi266_3
         have HC266_3:=Aside0.mk hl266_3
         clear hi266_3 hl266_3
         replace p266:=eq_true p266
         replace q266:=eq_true q266
         go_upto_region 8 with (first|((with_reducible refine gate_dst (N:=6) rfl ?_);(try (refine gate_guard (by rfl) ?_;dsimp only));refine box_event ?hg (N:=6) ?hd (cs:=#[.int .i64 0,.int .i64 0,.string (⟨#[]⟩:ByteArray),.slice none 0 0,.string (⟨#[]⟩:ByteArray),.int .i64 0]) (t:=57) ?hr ?_;(case hd=>rfl);(case hg=>rfl);(case hr=>first|(go_simp;done)|(go_simp;rfl));intro gb267 hg w15 hbox hb;have n0_:=Aside0.mk (Kd.R_below (by (with_reducible repeat (first|apply Kd.R_alloc|apply Kd.R_drewN|apply Kd.R_drew));exact HO_4.out) hb);have n1_:=Aside0.mk (blk_below (g:=gb262) (o:=.cells #[.slice (some ad266) l0_0.length c0_0] 29 (0,0)) (by (with_reducible repeat (first|refine blk_drewN ?_ _|refine blk_drew ?_|refine blk_alloc ?_ _));exact BK262.out) hb);have m1_:=Aside0.mk (blk_below (g:=gm) (o:=sobj (Value.int .i64) (x3_2)) (by (with_reducible repeat (first|refine blk_drewN ?_ _|refine blk_drew ?_|refine blk_alloc ?_ _));exact BKM.out) hb);have n2_:=Aside0.mk (below_step (by repeat (first|(with_reducible first|exact HB.out|apply below_alloc|apply pw_below_drewN|apply below_drew1|refine below_set ?_ GE262.out)|exact HB.out)) hb);have n3_:=Aside0.mk (hbox);have n4_:=Aside0.mk ((by rw [hg];exact (below_size (by repeat (first|(with_reducible first|exact HB.out|apply below_alloc|apply pw_below_drewN|apply below_drew1|refine below_set ?_ GE262.out)|exact HB.out))):w.heap.size≤gb267));have n5_:=Aside0.mk ((by rw [hg];exact (below_size (by repeat (first|(with_reducible first|exact HB.out|apply below_alloc|apply pw_below_drewN|apply below_drew1|refine below_set ?_ GE262.out)|exact HB.out))):w.heap.size≤gb267));have n6_:=Aside0.mk ((by rw [hg];exact Nat.ne_of_lt (blk_lt (g:=gb262) (o:=.cells #[.slice (some ad266) l0_0.length c0_0] 29 (0,0)) (by (with_reducible repeat (first|refine blk_drewN ?_ _|refine blk_drew ?_|refine blk_alloc ?_ _));exact BK262.out)):gb262≠gb267));have m6_:=Aside0.mk ((by rw [hg];exact Nat.ne_of_lt (blk_lt (g:=gm) (o:=sobj (Value.int .i64) (x3_2)) (by (with_reducible repeat (first|refine blk_drewN ?_ _|refine blk_drew ?_|refine blk_alloc ?_ _));exact BKM.out)):gm≠gb267));have n7_:=Aside0.mk ((by rw [hg];exact Nat.ne_of_gt (blk_lt (g:=gb262) (o:=.cells #[.slice (some ad266) l0_0.length c0_0] 29 (0,0)) (by (with_reducible repeat (first|refine blk_drewN ?_ _|refine blk_drew ?_|refine blk_alloc ?_ _));exact BK262.out)):gb267≠gb262));clear HO_4;clear BK262;clear BKM;clear HB;have HO_4:=n0_;have BK262:=n1_;have BKM:=m1_;have HB:=n2_;have BK267:=n3_;have GW267:=n4_;have GE267:=n5_;have NB262_267:=n6_;have NBM_267:=m6_;have NB267_262:=n7_;clear n0_ n1_ n2_ n3_ n4_ n5_ n6_ n7_;(try clear m1_ m6_);clear hb hbox hg;have hnb16:=NB267_262.out;have hnc16:=NB262_267.out;have hcz17_0:w15.cell? ⟨gb267,0,none⟩=some (.int .i64 0):=(blk_cell BK267.out 0).trans rfl;have hcz17_1:w15.cell? ⟨gb267,1,none⟩=some (.int .i64 0):=(blk_cell BK267.out 1).trans rfl;have hcz17_2:w15.cell? ⟨gb267,2,none⟩=some (.string (⟨#[]⟩:ByteArray)):=(blk_cell BK267.out 2).trans rfl;have hcz17_3:w15.cell? ⟨gb267,3,none⟩=some (.slice none 0 0):=(blk_cell BK267.out 3).trans rfl;have hcz17_4:w15.cell? ⟨gb267,4,none⟩=some (.string (⟨#[]⟩:ByteArray)):=(blk_cell BK267.out 4).trans rfl;have hcz17_5:w15.cell? ⟨gb267,5,none⟩=some (.int .i64 0):=(blk_cell BK267.out 5).trans rfl;have hfz17_0:=blk_frozen BK267.out 0;have hfz17_1:=blk_frozen BK267.out 1;have hfz17_2:=blk_frozen BK267.out 2;have hfz17_3:=blk_frozen BK267.out 3;have hfz17_4:=blk_frozen BK267.out 4;have hfz17_5:=blk_frozen BK267.out 5))
         (try simp only [Act.put,List.setIfInBounds_toArray,List.set_cons_zero,List.set_cons_succ])
         go_cut [39] (fun v39 wc=>∃ (kq:Nat) (x39_13:Bool),v39=.bool x39_13∧Aside0 (impl_TreeOk.j2 kq x3_2 x4_2 x24_2 l0_0 (l0_0.length:Int) x24_2 x39_13 ((rd_T57 l0_0 x24_2).f0) ((rd_T57 l0_0 x24_2).f1) ((rd_T57 l0_0 x24_2).f2) ((rd_T57 l0_0 x24_2).f3) ((rd_T57 l0_0 x24_2).f4) ((rd_T57 l0_0 x24_2).f5)=some r)∧Aside0 (kq≤k2)∧Aside0 (Kd.R (Kd.int .i64) 3 wc w.heap.size (fun _=>True) u4 x4_2)∧Aside0 (wc.heap[gb262]?=some (.cells #[(.slice (some ad266) l0_0.length c0_0)] 29 (0,0)))∧Aside0 (wc.heap[gb267]?=some (.cells #[.int .i64 ((rd_T57 l0_0 x24_2).f0),.int .i64 ((rd_T57 l0_0 x24_2).f1),.string ((rd_T57 l0_0 x24_2).f2),(.slice A266_3 ((rd_T57 l0_0 x24_2).f3).length c266_3),.string ((rd_T57 l0_0 x24_2).f4),.int .i64 ((rd_T57 l0_0 x24_2).f5)] 57 (0,0)))∧Aside0 (wc.heap[gm]?=some (sobj (Value.int .i64) (x3_2)))∧Aside0 (Below w.heap.size w wc))
         case first=>
          have H:=HC14.out
          clear HC14
          replace H:=Option.bind_eq_some_iff.mp H
          obtain ⟨t268,A180,H⟩:=H
          replace H:(if t268=true then (impl_TreeOk.j2 k2 x3_2 x4_2 x24_2 l0_0 (l0_0.length:Int) x24_2 (smem x3_2 ((rd_T57 l0_0 x24_2).f0)) ((rd_T57 l0_0 x24_2).f0) ((rd_T57 l0_0 x24_2).f1) ((rd_T57 l0_0 x24_2).f2) ((rd_T57 l0_0 x24_2).f3) ((rd_T57 l0_0 x24_2).f4) ((rd_T57 l0_0 x24_2).f5)) else (impl_TreeOk.j2 k2 x3_2 x4_2 x24_2 l0_0 (l0_0.length:Int) x24_2 true ((rd_T57 l0_0 x24_2).f0) ((rd_T57 l0_0 x24_2).f1) ((rd_T57 l0_0 x24_2).f2) ((rd_T57 l0_0 x24_2).f3) ((rd_T57 l0_0 x24_2).f4) ((rd_T57 l0_0 x24_2).f5)))=some r:=H
          have A18:=Aside0.mk A180
          clear A180
          by_cases c19:t268=true
          ·subst c19
           have H1:(impl_TreeOk.j2 k2 x3_2 x4_2 x24_2 l0_0 (l0_0.length:Int) x24_2 (smem x3_2 ((rd_T57 l0_0 x24_2).f0)) ((rd_T57 l0_0 x24_2).f0) ((rd_T57 l0_0 x24_2).f1) ((rd_T57 l0_0 x24_2).f2) ((rd_T57 l0_0 x24_2).f3) ((rd_T57 l0_0 x24_2).f4) ((rd_T57 l0_0 x24_2).f5))=some r:=by rw [if_pos rfl] at H;exact H
           clear H
           have H:=H1
           clear H1
           have H':=Aside0.mk H
           clear H
           have hnb20:=NB267_262.out
           have hnc20:=NB262_267.out
           have hcz21_0:w15.cell? ⟨gb267,0,none⟩=some (.int .i64 0):=(blk_cell BK267.out 0).trans rfl
           have hcz21_1:w15.cell? ⟨gb267,1,none⟩=some (.int .i64 0):=(blk_cell BK267.out 1).trans rfl
           have hcz21_2:w15.cell? ⟨gb267,2,none⟩=some (.string (⟨#[]⟩:ByteArray)):=(blk_cell BK267.out 2).trans rfl
           have hcz21_3:w15.cell? ⟨gb267,3,none⟩=some (.slice none 0 0):=(blk_cell BK267.out 3).trans rfl
           have hcz21_4:w15.cell? ⟨gb267,4,none⟩=some (.string (⟨#[]⟩:ByteArray)):=(blk_cell BK267.out 4).trans rfl
           have hcz21_5:w15.cell? ⟨gb267,5,none⟩=some (.int .i64 0):=(blk_cell BK267.out 5).trans rfl
           have hfz21_0:=blk_frozen BK267.out 0
           have hfz21_1:=blk_frozen BK267.out 1
           have hfz21_2:=blk_frozen BK267.out 2
           have hfz21_3:=blk_frozen BK267.out 3
           have hfz21_4:=blk_frozen BK267.out 4
           have hfz21_5:=blk_frozen BK267.out 5
           go_wp2_with (first|((with_reducible refine gate_callee (f:=27) rfl ?_);refine goesL_ (some 32) rfl rfl Tryz.func27 (by kernel_rfl) rfl #[.agg #[.int .i64 ((rd_T57 l0_0 x24_2).f0),.int .i64 ((rd_T57 l0_0 x24_2).f1),.string ((rd_T57 l0_0 x24_2).f2),.slice A266_3 ((rd_T57 l0_0 x24_2).f3).length c266_3,.string ((rd_T57 l0_0 x24_2).f4),.int .i64 ((rd_T57 l0_0 x24_2).f5)],.bool (x24_2==0)] rfl (by (try simp only [List.map_toArray,List.map_cons,List.map_nil]);first|done|rfl|(simp only [List.length_drop,List.length_take];rfl)) ?_;(with_reducible refine (impl_nodeRight.calls k2 ((rd_T57 l0_0 x24_2).f0) ((rd_T57 l0_0 x24_2).f1) ((rd_T57 l0_0 x24_2).f2) _ _ ((rd_T57 l0_0 x24_2).f3) ((rd_T57 l0_0 x24_2).f4) ((rd_T57 l0_0 x24_2).f5) (x24_2==0) true _ ?side1 ?side2 A18.out).mono ?_);(case side1=>exact Kd.C_below HR266_3.out (by repeat (first|(with_reducible first|exact HB.out|apply below_alloc|apply pw_below_drewN|apply below_drew1|refine below_set ?_ GE262.out|refine below_set ?_ GE267.out)|exact HB.out)));(case side2=>exact HC266_3.out);rintro e w22 ⟨rfl,hb⟩;refine ⟨_,rfl,?_⟩;have n0_:=Aside0.mk (Kd.R_below (by (with_reducible repeat (first|apply Kd.R_alloc|apply Kd.R_drewN|apply Kd.R_drew));exact (Kd.R_mono (Kd.R_far (p:=⟨gb267,5,none⟩) (Kd.R_far (p:=⟨gb267,4,none⟩) (Kd.R_far (p:=⟨gb267,3,none⟩) (Kd.R_far (p:=⟨gb267,2,none⟩) (Kd.R_far (p:=⟨gb267,1,none⟩) (Kd.R_far (p:=⟨gb267,0,none⟩) (Kd.R_types HO_4.out BK267.out (by decide)) (fun _ hk=>hk.2) (.int .i64 ((rd_T57 l0_0 x24_2).f0))) (fun _ hk=>hk.2) (.int .i64 ((rd_T57 l0_0 x24_2).f1))) (fun _ hk=>hk.2) (.string ((rd_T57 l0_0 x24_2).f2))) (fun _ hk=>hk.2) (.slice A266_3 ((rd_T57 l0_0 x24_2).f3).length c266_3)) (fun _ hk=>hk.2) (.string ((rd_T57 l0_0 x24_2).f4))) (fun _ hk=>hk.2) (.int .i64 ((rd_T57 l0_0 x24_2).f5))) (fun _ h_=>h_.1))) hb);have n1_:=Aside0.mk (blk_below (g:=gb262) (o:=.cells #[.slice (some ad266) l0_0.length c0_0] 29 (0,0)) (by (with_reducible repeat (first|refine blk_drewN ?_ _|refine blk_drew ?_|refine blk_alloc ?_ _));refine blk_far ?_ NB262_267.out _;(with_reducible repeat (first|refine blk_drewN ?_ _|refine blk_drew ?_|refine blk_alloc ?_ _));refine blk_far ?_ NB262_267.out _;(with_reducible repeat (first|refine blk_drewN ?_ _|refine blk_drew ?_|refine blk_alloc ?_ _));refine blk_far ?_ NB262_267.out _;(with_reducible repeat (first|refine blk_drewN ?_ _|refine blk_drew ?_|refine blk_alloc ?_ _));refine blk_far ?_ NB262_267.out _;(with_reducible repeat (first|refine blk_drewN ?_ _|refine blk_drew ?_|refine blk_alloc ?_ _));refine blk_far ?_ NB262_267.out _;(with_reducible repeat (first|refine blk_drewN ?_ _|refine blk_drew ?_|refine blk_alloc ?_ _));refine blk_far ?_ NB262_267.out _;(with_reducible repeat (first|refine blk_drewN ?_ _|refine blk_drew ?_|refine blk_alloc ?_ _));exact BK262.out) hb);have m1_:=Aside0.mk (blk_below (g:=gm) (o:=sobj (Value.int .i64) (x3_2)) (by (with_reducible repeat (first|refine blk_drewN ?_ _|refine blk_drew ?_|refine blk_alloc ?_ _));refine obj_far ?_ NBM_267.out _;(with_reducible repeat (first|refine blk_drewN ?_ _|refine blk_drew ?_|refine blk_alloc ?_ _));refine obj_far ?_ NBM_267.out _;(with_reducible repeat (first|refine blk_drewN ?_ _|refine blk_drew ?_|refine blk_alloc ?_ _));refine obj_far ?_ NBM_267.out _;(with_reducible repeat (first|refine blk_drewN ?_ _|refine blk_drew ?_|refine blk_alloc ?_ _));refine obj_far ?_ NBM_267.out _;(with_reducible repeat (first|refine blk_drewN ?_ _|refine blk_drew ?_|refine blk_alloc ?_ _));refine obj_far ?_ NBM_267.out _;(with_reducible repeat (first|refine blk_drewN ?_ _|refine blk_drew ?_|refine blk_alloc ?_ _));refine obj_far ?_ NBM_267.out _;(with_reducible repeat (first|refine blk_drewN ?_ _|refine blk_drew ?_|refine blk_alloc ?_ _));exact BKM.out) hb);have n2_:=Aside0.mk (blk_below (g:=gb267) (o:=.cells #[.int .i64 ((rd_T57 l0_0 x24_2).f0),.int .i64 ((rd_T57 l0_0 x24_2).f1),.string ((rd_T57 l0_0 x24_2).f2),.slice A266_3 ((rd_T57 l0_0 x24_2).f3).length c266_3,.string ((rd_T57 l0_0 x24_2).f4),.int .i64 ((rd_T57 l0_0 x24_2).f5)] 57 (0,0)) (by (with_reducible repeat (first|refine blk_drewN ?_ _|refine blk_drew ?_|refine blk_alloc ?_ _));refine blk_put (cs:=#[.int .i64 ((rd_T57 l0_0 x24_2).f0),.int .i64 ((rd_T57 l0_0 x24_2).f1),.string ((rd_T57 l0_0 x24_2).f2),.slice A266_3 ((rd_T57 l0_0 x24_2).f3).length c266_3,.string ((rd_T57 l0_0 x24_2).f4),.int .i64 0]) ?_ 5 _ rfl;(with_reducible repeat (first|refine blk_drewN ?_ _|refine blk_drew ?_|refine blk_alloc ?_ _));refine blk_put (cs:=#[.int .i64 ((rd_T57 l0_0 x24_2).f0),.int .i64 ((rd_T57 l0_0 x24_2).f1),.string ((rd_T57 l0_0 x24_2).f2),.slice A266_3 ((rd_T57 l0_0 x24_2).f3).length c266_3,.string (⟨#[]⟩:ByteArray),.int .i64 0]) ?_ 4 _ rfl;(with_reducible repeat (first|refine blk_drewN ?_ _|refine blk_drew ?_|refine blk_alloc ?_ _));refine blk_put (cs:=#[.int .i64 ((rd_T57 l0_0 x24_2).f0),.int .i64 ((rd_T57 l0_0 x24_2).f1),.string ((rd_T57 l0_0 x24_2).f2),.slice none 0 0,.string (⟨#[]⟩:ByteArray),.int .i64 0]) ?_ 3 _ rfl;(with_reducible repeat (first|refine blk_drewN ?_ _|refine blk_drew ?_|refine blk_alloc ?_ _));refine blk_put (cs:=#[.int .i64 ((rd_T57 l0_0 x24_2).f0),.int .i64 ((rd_T57 l0_0 x24_2).f1),.string (⟨#[]⟩:ByteArray),.slice none 0 0,.string (⟨#[]⟩:ByteArray),.int .i64 0]) ?_ 2 _ rfl;(with_reducible repeat (first|refine blk_drewN ?_ _|refine blk_drew ?_|refine blk_alloc ?_ _));refine blk_put (cs:=#[.int .i64 ((rd_T57 l0_0 x24_2).f0),.int .i64 0,.string (⟨#[]⟩:ByteArray),.slice none 0 0,.string (⟨#[]⟩:ByteArray),.int .i64 0]) ?_ 1 _ rfl;(with_reducible repeat (first|refine blk_drewN ?_ _|refine blk_drew ?_|refine blk_alloc ?_ _));refine blk_put (cs:=#[.int .i64 0,.int .i64 0,.string (⟨#[]⟩:ByteArray),.slice none 0 0,.string (⟨#[]⟩:ByteArray),.int .i64 0]) ?_ 0 _ rfl;(with_reducible repeat (first|refine blk_drewN ?_ _|refine blk_drew ?_|refine blk_alloc ?_ _));exact BK267.out) hb);have n3_:=Aside0.mk (below_step (by repeat (first|(with_reducible first|exact HB.out|apply below_alloc|apply pw_below_drewN|apply below_drew1|refine below_set ?_ GE262.out|refine below_set ?_ GE267.out)|exact HB.out)) hb);clear HO_4;clear BK262;clear BKM;clear BK267;clear HB;have HO_4:=n0_;have BK262:=n1_;have BKM:=m1_;have BK267:=n2_;have HB:=n3_;clear n0_ n1_ n2_ n3_;(try clear m1_);(try clear hb);(try clear hb2);(try clear hk);(try clear hi);have hcz23_0:w22.cell? ⟨gb267,0,none⟩=some (.int .i64 ((rd_T57 l0_0 x24_2).f0)):=(blk_cell BK267.out 0).trans rfl;have hcz23_1:w22.cell? ⟨gb267,1,none⟩=some (.int .i64 ((rd_T57 l0_0 x24_2).f1)):=(blk_cell BK267.out 1).trans rfl;have hcz23_2:w22.cell? ⟨gb267,2,none⟩=some (.string ((rd_T57 l0_0 x24_2).f2)):=(blk_cell BK267.out 2).trans rfl;have hcz23_3:w22.cell? ⟨gb267,3,none⟩=some (.slice A266_3 ((rd_T57 l0_0 x24_2).f3).length c266_3):=(blk_cell BK267.out 3).trans rfl;have hcz23_4:w22.cell? ⟨gb267,4,none⟩=some (.string ((rd_T57 l0_0 x24_2).f4)):=(blk_cell BK267.out 4).trans rfl;have hcz23_5:w22.cell? ⟨gb267,5,none⟩=some (.int .i64 ((rd_T57 l0_0 x24_2).f5)):=(blk_cell BK267.out 5).trans rfl;have hfz23_0:=blk_frozen BK267.out 0;have hfz23_1:=blk_frozen BK267.out 1;have hfz23_2:=blk_frozen BK267.out 2;have hfz23_3:=blk_frozen BK267.out 3;have hfz23_4:=blk_frozen BK267.out 4;have hfz23_5:=blk_frozen BK267.out 5)|(at_lookup;(try (refine gate_guard (by rfl) ?_;dsimp only));refine sget_event (kt:=3) (et:=4) (d:=.int .i64) (ek:=Value.int .i64) (ks:=x3_2) (g:=gm) rfl _ _ rfl rfl (((rd_T57 l0_0 x24_2).f0)) rfl Tryz.underlying69 Tryz.underlying3 (fun _=>rfl) (vint_inj .i64) zero_bool (by (with_reducible repeat (first|exact BKM.out|refine blk_drewN ?_ _|refine blk_drew ?_|refine blk_alloc ?_ _|refine obj_far ?_ NBM_267.out _))) _ rfl ?_))
           go_meet
           case rel=>exact ⟨_,((smem x3_2 ((rd_T57 l0_0 x24_2).f0))),(by first|rfl|(simp;done)|(simp [*];done)),H',⟨by have:=HJ1.out;have:=HK2.out;first|omega|exact Nat.le_refl _⟩,⟨by (with_reducible repeat (first|apply Kd.R_alloc|apply Kd.R_drewN|apply Kd.R_drew));exact HO_4.out⟩,⟨by (with_reducible repeat (first|refine blk_drewN ?_ _|refine blk_drew ?_|refine blk_alloc ?_ _));exact BK262.out⟩,⟨by (with_reducible repeat (first|refine blk_drewN ?_ _|refine blk_drew ?_|refine blk_alloc ?_ _));exact BK267.out⟩,⟨by (with_reducible repeat (first|exact BKM.out|refine blk_drewN ?_ _|refine blk_drew ?_|refine blk_alloc ?_ _|refine obj_far ?_ NBM_267.out _))⟩,⟨by repeat (first|(with_reducible first|exact HB.out|apply below_alloc|apply pw_below_drewN|apply below_drew1|refine below_set ?_ GE262.out|refine below_set ?_ GE267.out)|exact HB.out)⟩⟩
          ·replace c19:=Bool.eq_false_iff.mpr c19
           subst c19
           have H1:(impl_TreeOk.j2 k2 x3_2 x4_2 x24_2 l0_0 (l0_0.length:Int) x24_2 true ((rd_T57 l0_0 x24_2).f0) ((rd_T57 l0_0 x24_2).f1) ((rd_T57 l0_0 x24_2).f2) ((rd_T57 l0_0 x24_2).f3) ((rd_T57 l0_0 x24_2).f4) ((rd_T57 l0_0 x24_2).f5))=some r:=by rw [if_neg (show ¬ (false=true) by decide)] at H;exact H
           clear H
           have H:=H1
           clear H1
           have H':=Aside0.mk H
           clear H
           have hnb24:=NB267_262.out
           have hnc24:=NB262_267.out
           have hcz25_0:w15.cell? ⟨gb267,0,none⟩=some (.int .i64 0):=(blk_cell BK267.out 0).trans rfl
           have hcz25_1:w15.cell? ⟨gb267,1,none⟩=some (.int .i64 0):=(blk_cell BK267.out 1).trans rfl
           have hcz25_2:w15.cell? ⟨gb267,2,none⟩=some (.string (⟨#[]⟩:ByteArray)):=(blk_cell BK267.out 2).trans rfl
           have hcz25_3:w15.cell? ⟨gb267,3,none⟩=some (.slice none 0 0):=(blk_cell BK267.out 3).trans rfl
           have hcz25_4:w15.cell? ⟨gb267,4,none⟩=some (.string (⟨#[]⟩:ByteArray)):=(blk_cell BK267.out 4).trans rfl
           have hcz25_5:w15.cell? ⟨gb267,5,none⟩=some (.int .i64 0):=(blk_cell BK267.out 5).trans rfl
           have hfz25_0:=blk_frozen BK267.out 0
           have hfz25_1:=blk_frozen BK267.out 1
           have hfz25_2:=blk_frozen BK267.out 2
           have hfz25_3:=blk_frozen BK267.out 3
           have hfz25_4:=blk_frozen BK267.out 4
           have hfz25_5:=blk_frozen BK267.out 5
           go_wp2_with (first|((with_reducible refine gate_callee (f:=27) rfl ?_);refine goesL_ (some 32) rfl rfl Tryz.func27 (by kernel_rfl) rfl #[.agg #[.int .i64 ((rd_T57 l0_0 x24_2).f0),.int .i64 ((rd_T57 l0_0 x24_2).f1),.string ((rd_T57 l0_0 x24_2).f2),.slice A266_3 ((rd_T57 l0_0 x24_2).f3).length c266_3,.string ((rd_T57 l0_0 x24_2).f4),.int .i64 ((rd_T57 l0_0 x24_2).f5)],.bool (x24_2==0)] rfl (by (try simp only [List.map_toArray,List.map_cons,List.map_nil]);first|done|rfl|(simp only [List.length_drop,List.length_take];rfl)) ?_;(with_reducible refine (impl_nodeRight.calls k2 ((rd_T57 l0_0 x24_2).f0) ((rd_T57 l0_0 x24_2).f1) ((rd_T57 l0_0 x24_2).f2) _ _ ((rd_T57 l0_0 x24_2).f3) ((rd_T57 l0_0 x24_2).f4) ((rd_T57 l0_0 x24_2).f5) (x24_2==0) false _ ?side1 ?side2 A18.out).mono ?_);(case side1=>exact Kd.C_below HR266_3.out (by repeat (first|(with_reducible first|exact HB.out|apply below_alloc|apply pw_below_drewN|apply below_drew1|refine below_set ?_ GE262.out|refine below_set ?_ GE267.out)|exact HB.out)));(case side2=>exact HC266_3.out);rintro e w26 ⟨rfl,hb⟩;refine ⟨_,rfl,?_⟩;have n0_:=Aside0.mk (Kd.R_below (by (with_reducible repeat (first|apply Kd.R_alloc|apply Kd.R_drewN|apply Kd.R_drew));exact (Kd.R_mono (Kd.R_far (p:=⟨gb267,5,none⟩) (Kd.R_far (p:=⟨gb267,4,none⟩) (Kd.R_far (p:=⟨gb267,3,none⟩) (Kd.R_far (p:=⟨gb267,2,none⟩) (Kd.R_far (p:=⟨gb267,1,none⟩) (Kd.R_far (p:=⟨gb267,0,none⟩) (Kd.R_types HO_4.out BK267.out (by decide)) (fun _ hk=>hk.2) (.int .i64 ((rd_T57 l0_0 x24_2).f0))) (fun _ hk=>hk.2) (.int .i64 ((rd_T57 l0_0 x24_2).f1))) (fun _ hk=>hk.2) (.string ((rd_T57 l0_0 x24_2).f2))) (fun _ hk=>hk.2) (.slice A266_3 ((rd_T57 l0_0 x24_2).f3).length c266_3)) (fun _ hk=>hk.2) (.string ((rd_T57 l0_0 x24_2).f4))) (fun _ hk=>hk.2) (.int .i64 ((rd_T57 l0_0 x24_2).f5))) (fun _ h_=>h_.1))) hb);have n1_:=Aside0.mk (blk_below (g:=gb262) (o:=.cells #[.slice (some ad266) l0_0.length c0_0] 29 (0,0)) (by (with_reducible repeat (first|refine blk_drewN ?_ _|refine blk_drew ?_|refine blk_alloc ?_ _));refine blk_far ?_ NB262_267.out _;(with_reducible repeat (first|refine blk_drewN ?_ _|refine blk_drew ?_|refine blk_alloc ?_ _));refine blk_far ?_ NB262_267.out _;(with_reducible repeat (first|refine blk_drewN ?_ _|refine blk_drew ?_|refine blk_alloc ?_ _));refine blk_far ?_ NB262_267.out _;(with_reducible repeat (first|refine blk_drewN ?_ _|refine blk_drew ?_|refine blk_alloc ?_ _));refine blk_far ?_ NB262_267.out _;(with_reducible repeat (first|refine blk_drewN ?_ _|refine blk_drew ?_|refine blk_alloc ?_ _));refine blk_far ?_ NB262_267.out _;(with_reducible repeat (first|refine blk_drewN ?_ _|refine blk_drew ?_|refine blk_alloc ?_ _));refine blk_far ?_ NB262_267.out _;(with_reducible repeat (first|refine blk_drewN ?_ _|refine blk_drew ?_|refine blk_alloc ?_ _));exact BK262.out) hb);have m1_:=Aside0.mk (blk_below (g:=gm) (o:=sobj (Value.int .i64) (x3_2)) (by (with_reducible repeat (first|refine blk_drewN ?_ _|refine blk_drew ?_|refine blk_alloc ?_ _));refine obj_far ?_ NBM_267.out _;(with_reducible repeat (first|refine blk_drewN ?_ _|refine blk_drew ?_|refine blk_alloc ?_ _));refine obj_far ?_ NBM_267.out _;(with_reducible repeat (first|refine blk_drewN ?_ _|refine blk_drew ?_|refine blk_alloc ?_ _));refine obj_far ?_ NBM_267.out _;(with_reducible repeat (first|refine blk_drewN ?_ _|refine blk_drew ?_|refine blk_alloc ?_ _));refine obj_far ?_ NBM_267.out _;(with_reducible repeat (first|refine blk_drewN ?_ _|refine blk_drew ?_|refine blk_alloc ?_ _));refine obj_far ?_ NBM_267.out _;(with_reducible repeat (first|refine blk_drewN ?_ _|refine blk_drew ?_|refine blk_alloc ?_ _));refine obj_far ?_ NBM_267.out _;(with_reducible repeat (first|refine blk_drewN ?_ _|refine blk_drew ?_|refine blk_alloc ?_ _));exact BKM.out) hb);have n2_:=Aside0.mk (blk_below (g:=gb267) (o:=.cells #[.int .i64 ((rd_T57 l0_0 x24_2).f0),.int .i64 ((rd_T57 l0_0 x24_2).f1),.string ((rd_T57 l0_0 x24_2).f2),.slice A266_3 ((rd_T57 l0_0 x24_2).f3).length c266_3,.string ((rd_T57 l0_0 x24_2).f4),.int .i64 ((rd_T57 l0_0 x24_2).f5)] 57 (0,0)) (by (with_reducible repeat (first|refine blk_drewN ?_ _|refine blk_drew ?_|refine blk_alloc ?_ _));refine blk_put (cs:=#[.int .i64 ((rd_T57 l0_0 x24_2).f0),.int .i64 ((rd_T57 l0_0 x24_2).f1),.string ((rd_T57 l0_0 x24_2).f2),.slice A266_3 ((rd_T57 l0_0 x24_2).f3).length c266_3,.string ((rd_T57 l0_0 x24_2).f4),.int .i64 0]) ?_ 5 _ rfl;(with_reducible repeat (first|refine blk_drewN ?_ _|refine blk_drew ?_|refine blk_alloc ?_ _));refine blk_put (cs:=#[.int .i64 ((rd_T57 l0_0 x24_2).f0),.int .i64 ((rd_T57 l0_0 x24_2).f1),.string ((rd_T57 l0_0 x24_2).f2),.slice A266_3 ((rd_T57 l0_0 x24_2).f3).length c266_3,.string (⟨#[]⟩:ByteArray),.int .i64 0]) ?_ 4 _ rfl;(with_reducible repeat (first|refine blk_drewN ?_ _|refine blk_drew ?_|refine blk_alloc ?_ _));refine blk_put (cs:=#[.int .i64 ((rd_T57 l0_0 x24_2).f0),.int .i64 ((rd_T57 l0_0 x24_2).f1),.string ((rd_T57 l0_0 x24_2).f2),.slice none 0 0,.string (⟨#[]⟩:ByteArray),.int .i64 0]) ?_ 3 _ rfl;(with_reducible repeat (first|refine blk_drewN ?_ _|refine blk_drew ?_|refine blk_alloc ?_ _));refine blk_put (cs:=#[.int .i64 ((rd_T57 l0_0 x24_2).f0),.int .i64 ((rd_T57 l0_0 x24_2).f1),.string (⟨#[]⟩:ByteArray),.slice none 0 0,.string (⟨#[]⟩:ByteArray),.int .i64 0]) ?_ 2 _ rfl;(with_reducible repeat (first|refine blk_drewN ?_ _|refine blk_drew ?_|refine blk_alloc ?_ _));refine blk_put (cs:=#[.int .i64 ((rd_T57 l0_0 x24_2).f0),.int .i64 0,.string (⟨#[]⟩:ByteArray),.slice none 0 0,.string (⟨#[]⟩:ByteArray),.int .i64 0]) ?_ 1 _ rfl;(with_reducible repeat (first|refine blk_drewN ?_ _|refine blk_drew ?_|refine blk_alloc ?_ _));refine blk_put (cs:=#[.int .i64 0,.int .i64 0,.string (⟨#[]⟩:ByteArray),.slice none 0 0,.string (⟨#[]⟩:ByteArray),.int .i64 0]) ?_ 0 _ rfl;(with_reducible repeat (first|refine blk_drewN ?_ _|refine blk_drew ?_|refine blk_alloc ?_ _));exact BK267.out) hb);have n3_:=Aside0.mk (below_step (by repeat (first|(with_reducible first|exact HB.out|apply below_alloc|apply pw_below_drewN|apply below_drew1|refine below_set ?_ GE262.out|refine below_set ?_ GE267.out)|exact HB.out)) hb);clear HO_4;clear BK262;clear BKM;clear BK267;clear HB;have HO_4:=n0_;have BK262:=n1_;have BKM:=m1_;have BK267:=n2_;have HB:=n3_;clear n0_ n1_ n2_ n3_;(try clear m1_);(try clear hb);(try clear hb2);(try clear hk);(try clear hi))|(at_lookup;(try (refine gate_guard (by rfl) ?_;dsimp only));refine sget_event (kt:=3) (et:=4) (d:=.int .i64) (ek:=Value.int .i64) (ks:=x3_2) (g:=gm) rfl _ _ rfl rfl (((rd_T57 l0_0 x24_2).f0)) rfl Tryz.underlying69 Tryz.underlying3 (fun _=>rfl) (vint_inj .i64) zero_bool (by (with_reducible repeat (first|exact BKM.out|refine blk_drewN ?_ _|refine blk_drew ?_|refine blk_alloc ?_ _|refine obj_far ?_ NBM_267.out _))) _ rfl ?_))
           go_meet
           case rel=>exact ⟨_,(true),(by first|rfl|(simp;done)|(simp [*];done)),H',⟨by have:=HJ1.out;have:=HK2.out;first|omega|exact Nat.le_refl _⟩,⟨by (with_reducible repeat (first|apply Kd.R_alloc|apply Kd.R_drewN|apply Kd.R_drew));exact HO_4.out⟩,⟨by (with_reducible repeat (first|refine blk_drewN ?_ _|refine blk_drew ?_|refine blk_alloc ?_ _));exact BK262.out⟩,⟨by (with_reducible repeat (first|refine blk_drewN ?_ _|refine blk_drew ?_|refine blk_alloc ?_ _));exact BK267.out⟩,⟨by (with_reducible repeat (first|exact BKM.out|refine blk_drewN ?_ _|refine blk_drew ?_|refine blk_alloc ?_ _|refine obj_far ?_ NBM_267.out _))⟩,⟨by repeat (first|(with_reducible first|exact HB.out|apply below_alloc|apply pw_below_drewN|apply below_drew1|refine below_set ?_ GE262.out|refine below_set ?_ GE267.out)|exact HB.out)⟩⟩
         case rest=>
          clear HC14
          try clear c1
          try clear c2
          try clear p2
          try clear q2
          try clear hx2
          try clear c4
          try clear c4b0
          try clear c4b1
          try clear c4b2
          try clear c7
          try clear c11
          try clear c11b0
          try clear c12
          try clear c12b0
          try clear c13
          try clear c13b0
          try clear c16
          try clear c19
          try clear c20
          try clear c24
          try clear c26
          try clear p26
          try clear q26
          try clear hx26
          try clear hcz10_0
          try clear hcz17_0
          try clear hcz17_1
          try clear hcz17_2
          try clear hcz17_3
          try clear hcz17_4
          try clear hcz17_5
          try clear hcz21_0
          try clear hcz21_1
          try clear hcz21_2
          try clear hcz21_3
          try clear hcz21_4
          try clear hcz21_5
          try clear hcz23_0
          try clear hcz23_1
          try clear hcz23_2
          try clear hcz23_3
          try clear hcz23_4
          try clear hcz23_5
          try clear hcz25_0
          try clear hcz25_1
          try clear hcz25_2
          try clear hcz25_3
          try clear hcz25_4
          try clear hcz25_5
          try clear hcz5_0
          try clear hcz6_0
          try clear hfz10_0
          try clear hfz17_0
          try clear hfz17_1
          try clear hfz17_2
          try clear hfz17_3
          try clear hfz17_4
          try clear hfz17_5
          try clear hfz21_0
          try clear hfz21_1
          try clear hfz21_2
          try clear hfz21_3
          try clear hfz21_4
          try clear hfz21_5
          try clear hfz23_0
          try clear hfz23_1
          try clear hfz23_2
          try clear hfz23_3
          try clear hfz23_4
          try clear hfz23_5
          try clear hfz25_0
          try clear hfz25_1
          try clear hfz25_2
          try clear hfz25_3
          try clear hfz25_4
          try clear hfz25_5
          try clear hfz5_0
          try clear hfz6_0
          try clear hx266_0
          try clear hx266_1
          try clear hx266_2
          try clear hx266_3
          try clear hx266_4
          try clear hx266_5
          try clear p2
          try clear p266
          try clear q266
          obtain ⟨kq,x39_13,rfl,HA,HJ13,HO_4,BK262,BK267,BKM,HB⟩:=hcut
          cases kq with
          |zero=>exact absurd HA.out (by simp [impl_TreeOk.j2])
          |succ kj13=>
           have H:=HA.out
           clear HA
           simp only [impl_TreeOk.j2] at H
           by_cases c27:x39_13=true
           ·subst c27
            have H1:(some false)=some r:=by rw [if_pos rfl] at H;exact H
            clear H
            have H:=H1
            clear H1
            obtain rfl:=Option.some.inj H
            go_wp2
            go_ret
            exact ⟨by first|rfl|(simp [errW_none,errW_some]<;>rfl)|(simp [*,errW_none,errW_some]<;>rfl),by repeat (first|(with_reducible first|exact HB.out|apply below_alloc|apply pw_below_drewN|apply below_drew1|refine below_set ?_ GE262.out|refine below_set ?_ GE267.out)|exact HB.out)⟩
           ·replace c27:=Bool.eq_false_iff.mpr c27
            subst c27
            have H1:(impl_TreeOk.l1 kj13 (((rd_T57 l0_0 x24_2).f0)::x3_2) x4_2 x24_2 l0_0 (l0_0.length:Int) x24_2 ((rd_T57 l0_0 x24_2).f0) ((rd_T57 l0_0 x24_2).f1) ((rd_T57 l0_0 x24_2).f2) ((rd_T57 l0_0 x24_2).f3) ((rd_T57 l0_0 x24_2).f4) ((rd_T57 l0_0 x24_2).f5))=some r:=by rw [if_neg (show ¬ (false=true) by decide)] at H;exact H
            clear H
            have H:=H1
            clear H1
            have HC28:=Aside0.mk H
            clear H
            have hnb29:=NB267_262.out
            have hnc29:=NB262_267.out
            have hcz30_0:wc.cell? ⟨gb267,0,none⟩=some (.int .i64 ((rd_T57 l0_0 x24_2).f0)):=(blk_cell BK267.out 0).trans rfl
            have hcz30_1:wc.cell? ⟨gb267,1,none⟩=some (.int .i64 ((rd_T57 l0_0 x24_2).f1)):=(blk_cell BK267.out 1).trans rfl
            have hcz30_2:wc.cell? ⟨gb267,2,none⟩=some (.string ((rd_T57 l0_0 x24_2).f2)):=(blk_cell BK267.out 2).trans rfl
            have hcz30_3:wc.cell? ⟨gb267,3,none⟩=some (.slice A266_3 ((rd_T57 l0_0 x24_2).f3).length c266_3):=(blk_cell BK267.out 3).trans rfl
            have hcz30_4:wc.cell? ⟨gb267,4,none⟩=some (.string ((rd_T57 l0_0 x24_2).f4)):=(blk_cell BK267.out 4).trans rfl
            have hcz30_5:wc.cell? ⟨gb267,5,none⟩=some (.int .i64 ((rd_T57 l0_0 x24_2).f5)):=(blk_cell BK267.out 5).trans rfl
            have hfz30_0:=blk_frozen BK267.out 0
            have hfz30_1:=blk_frozen BK267.out 1
            have hfz30_2:=blk_frozen BK267.out 2
            have hfz30_3:=blk_frozen BK267.out 3
            have hfz30_4:=blk_frozen BK267.out 4
            have hfz30_5:=blk_frozen BK267.out 5
            go_upto_block 2 with (at_mapUpdate;refine sput_event (kt:=3) (et:=4) (d:=.int .i64) (ek:=Value.int .i64) (ks:=x3_2) (g:=gm) rfl _ _ _ rfl rfl rfl (((rd_T57 l0_0 x24_2).f0)) rfl rfl Tryz.underlying69 Tryz.underlying3 (fun _=>rfl) (vint_inj .i64) (by (with_reducible repeat (first|exact BKM.out|refine blk_drewN ?_ _|refine blk_drew ?_|refine blk_alloc ?_ _|refine obj_far ?_ NBM_267.out _))) ?_;intro wP hmap hg;have m0_:=Aside0.mk (show wP.heap[gm]?=some (sobj (Value.int .i64) ((((rd_T57 l0_0 x24_2).f0)::x3_2))) from hmap);have m1_:=Aside0.mk (pw_below_grown (by repeat (first|(with_reducible first|exact HB.out|apply below_alloc|apply pw_below_drewN|apply below_drew1|refine below_set ?_ GE262.out|refine below_set ?_ GE267.out)|exact HB.out)) _ (below_size (by repeat (first|(with_reducible first|exact HB.out|apply below_alloc|apply pw_below_drewN|apply below_drew1|refine below_set ?_ GE262.out|refine below_set ?_ GE267.out)|exact HB.out))) hg (fun k hk=>by injection hk with hk;rw [← hk];exact GEM.out));have m2_:=Aside0.mk (blk_grown (g:=gb262) (o:=.cells #[(.slice (some ad266) l0_0.length c0_0)] 29 (0,0)) BK262.out hg (cells_ne_map BK262.out BKM.out));have m3_:=Aside0.mk (blk_grown (g:=gb267) (o:=.cells #[.int .i64 ((rd_T57 l0_0 x24_2).f0),.int .i64 ((rd_T57 l0_0 x24_2).f1),.string ((rd_T57 l0_0 x24_2).f2),(.slice A266_3 ((rd_T57 l0_0 x24_2).f3).length c266_3),.string ((rd_T57 l0_0 x24_2).f4),.int .i64 ((rd_T57 l0_0 x24_2).f5)] 57 (0,0)) BK267.out hg (cells_ne_map BK267.out BKM.out));have m4_:=Aside0.mk (R_put_map HO_4.out hg BKM.out);clear BKM HB BK262 BK267 HO_4;have BKM:=m0_;have HB:=m1_;have BK262:=m2_;have BK267:=m3_;have HO_4:=m4_;clear m0_ m1_ m2_ m3_ m4_ hmap hg)
            go_cut [4] (fun v4 wc=>∃ (kq:Nat) (x4_27:List Int),Aside0 (impl_TreeOk.j4 kq (((rd_T57 l0_0 x24_2).f0)::x3_2) x4_27 x24_2 l0_0 (l0_0.length:Int) x24_2 ((rd_T57 l0_0 x24_2).f0) ((rd_T57 l0_0 x24_2).f1) ((rd_T57 l0_0 x24_2).f2) ((rd_T57 l0_0 x24_2).f3) ((rd_T57 l0_0 x24_2).f4) ((rd_T57 l0_0 x24_2).f5)=some r)∧Aside0 (kq≤kj13)∧Aside0 (Kd.R (Kd.int .i64) 3 wc w.heap.size (fun _=>True) v4 x4_27)∧Aside0 (wc.heap[gb262]?=some (.cells #[(.slice (some ad266) l0_0.length c0_0)] 29 (0,0)))∧Aside0 (wc.heap[gb267]?=some (.cells #[.int .i64 ((rd_T57 l0_0 x24_2).f0),.int .i64 ((rd_T57 l0_0 x24_2).f1),.string ((rd_T57 l0_0 x24_2).f2),(.slice A266_3 ((rd_T57 l0_0 x24_2).f3).length c266_3),.string ((rd_T57 l0_0 x24_2).f4),.int .i64 ((rd_T57 l0_0 x24_2).f5)] 57 (0,0)))∧Aside0 (wc.heap[gm]?=some (sobj (Value.int .i64) ((((rd_T57 l0_0 x24_2).f0)::x3_2))))∧Aside0 (Below w.heap.size w wc))
            case first=>
             have H:=HC28.out
             clear HC28
             have H':=Aside0.mk H
             clear H
             go_wp2
             go_loopg [4] kj13 (fun kq v4 w'=>∃ (x4_4:List Int),Aside0 (impl_TreeOk.l1 kq (((rd_T57 l0_0 x24_2).f0)::x3_2) x4_4 x24_2 l0_0 (l0_0.length:Int) x24_2 ((rd_T57 l0_0 x24_2).f0) ((rd_T57 l0_0 x24_2).f1) ((rd_T57 l0_0 x24_2).f2) ((rd_T57 l0_0 x24_2).f3) ((rd_T57 l0_0 x24_2).f4) ((rd_T57 l0_0 x24_2).f5)=some r)∧Aside0 (kq≤kj13)∧Aside0 (Kd.R (Kd.int .i64) 3 w' w.heap.size (fun _=>True) v4 x4_4)∧Aside0 (w'.heap[gb262]?=some (.cells #[(.slice (some ad266) l0_0.length c0_0)] 29 (0,0)))∧Aside0 (w'.heap[gb267]?=some (.cells #[.int .i64 ((rd_T57 l0_0 x24_2).f0),.int .i64 ((rd_T57 l0_0 x24_2).f1),.string ((rd_T57 l0_0 x24_2).f2),(.slice A266_3 ((rd_T57 l0_0 x24_2).f3).length c266_3),.string ((rd_T57 l0_0 x24_2).f4),.int .i64 ((rd_T57 l0_0 x24_2).f5)] 57 (0,0)))∧Aside0 (w'.heap[gm]?=some (sobj (Value.int .i64) ((((rd_T57 l0_0 x24_2).f0)::x3_2))))∧Aside0 (Below w.heap.size w w'))
             case atStart=>exact ⟨(x4_2),H',⟨Nat.le_refl _⟩,⟨by (with_reducible repeat (first|apply Kd.R_alloc|apply Kd.R_drewN|apply Kd.R_drew));exact HO_4.out⟩,⟨by (with_reducible repeat (first|refine blk_drewN ?_ _|refine blk_drew ?_|refine blk_alloc ?_ _));exact BK262.out⟩,⟨by (with_reducible repeat (first|refine blk_drewN ?_ _|refine blk_drew ?_|refine blk_alloc ?_ _));exact BK267.out⟩,⟨by (with_reducible repeat (first|exact BKM.out|refine blk_drewN ?_ _|refine blk_drew ?_|refine blk_alloc ?_ _|refine obj_far ?_ NBM_267.out _))⟩,⟨by repeat (first|(with_reducible first|exact HB.out|apply below_alloc|apply pw_below_drewN|apply below_drew1|refine below_set ?_ GE262.out|refine below_set ?_ GE267.out)|exact HB.out)⟩⟩
             case round=>
              clear H'
              try clear c1
              try clear c2
              try clear p2
              try clear q2
              try clear hx2
              try clear c4
              try clear c4b0
              try clear c4b1
              try clear c4b2
              try clear p6
              try clear c7
              try clear c11
              try clear c11b0
              try clear c12
              try clear c12b0
              try clear c13
              try clear c13b0
              try clear c16
              try clear c19
              try clear c20
              try clear c24
              try clear c26
              try clear p26
              try clear q26
              try clear hx26
              try clear c27
              try clear c29
              try clear hcz10_0
              try clear hcz17_0
              try clear hcz17_1
              try clear hcz17_2
              try clear hcz17_3
              try clear hcz17_4
              try clear hcz17_5
              try clear hcz21_0
              try clear hcz21_1
              try clear hcz21_2
              try clear hcz21_3
              try clear hcz21_4
              try clear hcz21_5
              try clear hcz23_0
              try clear hcz23_1
              try clear hcz23_2
              try clear hcz23_3
              try clear hcz23_4
              try clear hcz23_5
              try clear hcz25_0
              try clear hcz25_1
              try clear hcz25_2
              try clear hcz25_3
              try clear hcz25_4
              try clear hcz25_5
              try clear hcz30_0
              try clear hcz30_1
              try clear hcz30_2
              try clear hcz30_3
              try clear hcz30_4
              try clear hcz30_5
              try clear hcz5_0
              try clear hcz6_0
              try clear hfz10_0
              try clear hfz17_0
              try clear hfz17_1
              try clear hfz17_2
              try clear hfz17_3
              try clear hfz17_4
              try clear hfz17_5
              try clear hfz21_0
              try clear hfz21_1
              try clear hfz21_2
              try clear hfz21_3
              try clear hfz21_4
              try clear hfz21_5
              try clear hfz23_0
              try clear hfz23_1
              try clear hfz23_2
              try clear hfz23_3
              try clear hfz23_4
              try clear hfz23_5
              try clear hfz25_0
              try clear hfz25_1
              try clear hfz25_2
              try clear hfz25_3
              try clear hfz25_4
              try clear hfz25_5
              try clear hfz30_0
              try clear hfz30_1
              try clear hfz30_2
              try clear hfz30_3
              try clear hfz30_4
              try clear hfz30_5
              try clear hfz5_0
              try clear hfz6_0
              try clear hx266_0
              try clear hx266_1
              try clear hx266_2
              try clear hx266_3
              try clear hx266_4
              try clear hx266_5
              try clear p2
              try clear p26
              try clear p266
              try clear q2
              try clear q26
              try clear q266
              obtain ⟨x4_4,HA,HK4,HO_4,BK262,BK267,BKM,HB⟩:=hrel
              cases gk with
              |zero=>exact absurd HA.out (by simp [impl_TreeOk.l1])
              |succ k4=>
               have H:=HA.out
               clear HA
               simp only [impl_TreeOk.l1] at H
               by_cases c31:(x4_4.length:Int) > 0
               ·rw [if_pos c31] at H
                have c31b0:decide (0<(x4_4.length:Int))=true:=decide_eq_true c31
                have c31b1:decide (0<x4_4.length)=true:=decide_eq_true (by omega)
                clear c31
                (first|rw [c31b0]|(simp only [i64_w,i32_w];rw [c31b0])|rw [c31b1]|skip)
                obtain ⟨ji32,hji32⟩:∃ j_:Int,(wrap64 ((x4_4.length:Int) - 1))=j_:=⟨_,rfl⟩
                replace H:(if 0≤(ji32) then (if (ji32)<(x4_4.length:Int) then (if (rd x4_4 (ji32))=0 then (if (ji32)≤(x4_4.length:Int) then (impl_TreeOk.l1 k4 (((rd_T57 l0_0 x24_2).f0)::x3_2) (x4_4.take ((ji32):Int).toNat) x24_2 l0_0 (l0_0.length:Int) x24_2 ((rd_T57 l0_0 x24_2).f0) ((rd_T57 l0_0 x24_2).f1) ((rd_T57 l0_0 x24_2).f2) ((rd_T57 l0_0 x24_2).f3) ((rd_T57 l0_0 x24_2).f4) ((rd_T57 l0_0 x24_2).f5)) else (none)) else (impl_TreeOk.j4 k4 (((rd_T57 l0_0 x24_2).f0)::x3_2) x4_4 x24_2 l0_0 (l0_0.length:Int) x24_2 ((rd_T57 l0_0 x24_2).f0) ((rd_T57 l0_0 x24_2).f1) ((rd_T57 l0_0 x24_2).f2) ((rd_T57 l0_0 x24_2).f3) ((rd_T57 l0_0 x24_2).f4) ((rd_T57 l0_0 x24_2).f5))) else (none)) else (none))=some r:=by first|(rw [hji32] at H;exact H)|(simp only [hji32] at H ⊢;exact H)
                have hji32w:(IntKind.i64.wrap ((x4_4.length:Int) - 1))=ji32:=(i64_w _).trans hji32
                by_cases c33:0≤(ji32)
                ·rw [if_pos c33] at H
                 have c33b0:decide (0≤(ji32))=true:=decide_eq_true c33
                 clear c33
                 by_cases c34:(ji32)<(x4_4.length:Int)
                 ·rw [if_pos c34] at H
                  have c34b0:decide ((ji32)<(x4_4.length:Int))=true:=decide_eq_true c34
                  clear c34
                  by_cases c35:(rd x4_4 (ji32))=0
                  ·rw [if_pos c35] at H
                   have c35b0:((rd x4_4 (ji32))==0)=true:=beq_iff_eq.mpr c35
                   have c35b1:((rd x4_4 (ji32)) != 0)=false:=bne_eq_false_iff_eq.mpr c35
                   clear c35
                   by_cases c36:(ji32)≤(x4_4.length:Int)
                   ·rw [if_pos c36] at H
                    have c36b0:=eq_true c36
                    have c36b1:decide ((ji32)≤(x4_4.length:Int))=true:=decide_eq_true c36
                    clear c36
                    obtain ⟨y270,hy270⟩:∃ y_:List Int,y_=(x4_4.take ((ji32):Int).toNat):=⟨_,rfl⟩
                    replace H:(impl_TreeOk.l1 k4 (((rd_T57 l0_0 x24_2).f0)::x3_2) y270 x24_2 l0_0 (l0_0.length:Int) x24_2 ((rd_T57 l0_0 x24_2).f0) ((rd_T57 l0_0 x24_2).f1) ((rd_T57 l0_0 x24_2).f2) ((rd_T57 l0_0 x24_2).f3) ((rd_T57 l0_0 x24_2).f4) ((rd_T57 l0_0 x24_2).f5))=some r:=by first|(rw [hy270];with_reducible exact H)|(have H2_:=(Option.bind_some _ _).symm.trans H;rw [hy270];with_reducible exact H2_)|(have H2_:=(Option.bind_some _ _).symm.trans H;with_reducible exact H2_)|with_reducible exact H|(rw [hy270];exact H)|exact H
                    have Ny270:=Aside0.mk hy270
                    clear hy270
                    have H':=Aside0.mk H
                    clear H
                    obtain ⟨Ao37,co37,eo37⟩:=Kd.R_slice HO_4.out
                    subst eo37
                    have p269:0≤((ji32):Int):=of_decide_eq_true (by first|(with_reducible assumption)|assumption)
                    have q269:(ji32)<(x4_4.length:Int):=of_decide_eq_true (by first|(with_reducible assumption)|assumption)
                    obtain ⟨ad269,e269,hx269_0⟩:=Kd.at_int (Kd.R_reads' HO_4.out).2.2 (ji32) p269 q269
                    cases e269
                    replace p269:=eq_true p269
                    replace q269:=eq_true q269
                    have q38:((ji32):Int)≤((x4_4.length:Int):Int):=of_decide_eq_true (by first|(with_reducible assumption)|assumption)
                    obtain ⟨i038,hi038,_,hsz38,_⟩:=info_parts info3
                    have hcut38:=cut_to (P:=Tryz.prog) 65 3 .i64 Tryz.underlying65 hi038 (some ad269) x4_4.length co37 (ji32) (of_decide_eq_true (by first|(with_reducible assumption)|assumption)) q38 (Kd.R_reads' HO_4.out).2.1
                    have hr38:=Kd.R_take (m:=((ji32):Int).toNat) HO_4.out (by omega)
                    have hy38:y270.length=((ji32):Int).toNat:=(by rw [Ny270.out,List.length_take];omega)
                    rw [← Ny270.out] at hr38
                    rw [← hy38] at hr38 hcut38
                    clear hy38 hi038 hsz38 HO_4
                    have HO272:=Aside0.mk hr38
                    clear hr38
                    replace q38:=eq_true q38
                    go_wp2
                    go_roundg k4
                    case measure=>have:=HJ1.out;have:=HK2.out;have:=HJ13.out;have:=HK4.out;omega
                    case rel=>exact ⟨(y270),H',⟨by have:=HJ1.out;have:=HK2.out;have:=HJ13.out;have:=HK4.out;omega⟩,⟨by (with_reducible repeat (first|apply Kd.R_alloc|apply Kd.R_drewN|apply Kd.R_drew));exact HO272.out⟩,⟨by (with_reducible repeat (first|refine blk_drewN ?_ _|refine blk_drew ?_|refine blk_alloc ?_ _));exact BK262.out⟩,⟨by (with_reducible repeat (first|refine blk_drewN ?_ _|refine blk_drew ?_|refine blk_alloc ?_ _));exact BK267.out⟩,⟨by (with_reducible repeat (first|exact BKM.out|refine blk_drewN ?_ _|refine blk_drew ?_|refine blk_alloc ?_ _|refine obj_far ?_ NBM_267.out _))⟩,⟨by repeat (first|(with_reducible first|exact HB.out|apply below_alloc|apply pw_below_drewN|apply below_drew1|refine below_set ?_ GE262.out|refine below_set ?_ GE267.out)|exact HB.out)⟩⟩
                   ·rw [if_neg c36] at H
                    exact absurd H (by simp)
                  ·rw [if_neg c35] at H
                   have c35b0:((rd x4_4 (ji32))==0)=false:=beq_eq_false_iff_ne.mpr c35
                   have c35b1:((rd x4_4 (ji32)) != 0)=true:=bne_iff_ne.mpr c35
                   have H':=Aside0.mk H
                   clear H
                   obtain ⟨Ao39,co39,eo39⟩:=Kd.R_slice HO_4.out
                   subst eo39
                   have p269:0≤((ji32):Int):=of_decide_eq_true (by first|(with_reducible assumption)|assumption)
                   have q269:(ji32)<(x4_4.length:Int):=of_decide_eq_true (by first|(with_reducible assumption)|assumption)
                   obtain ⟨ad269,e269,hx269_0⟩:=Kd.at_int (Kd.R_reads' HO_4.out).2.2 (ji32) p269 q269
                   cases e269
                   replace p269:=eq_true p269
                   replace q269:=eq_true q269
                   go_wp2
                   go_meet
                   case rel=>exact ⟨_,(x4_4),H',⟨by have:=HJ1.out;have:=HK2.out;have:=HJ13.out;have:=HK4.out;first|omega|exact Nat.le_refl _⟩,⟨by (with_reducible repeat (first|apply Kd.R_alloc|apply Kd.R_drewN|apply Kd.R_drew));exact HO_4.out⟩,⟨by (with_reducible repeat (first|refine blk_drewN ?_ _|refine blk_drew ?_|refine blk_alloc ?_ _));exact BK262.out⟩,⟨by (with_reducible repeat (first|refine blk_drewN ?_ _|refine blk_drew ?_|refine blk_alloc ?_ _));exact BK267.out⟩,⟨by (with_reducible repeat (first|exact BKM.out|refine blk_drewN ?_ _|refine blk_drew ?_|refine blk_alloc ?_ _|refine obj_far ?_ NBM_267.out _))⟩,⟨by repeat (first|(with_reducible first|exact HB.out|apply below_alloc|apply pw_below_drewN|apply below_drew1|refine below_set ?_ GE262.out|refine below_set ?_ GE267.out)|exact HB.out)⟩⟩
                 ·rw [if_neg c34] at H
                  exact absurd H (by simp)
                ·rw [if_neg c33] at H
                 exact absurd H (by simp)
               ·rw [if_neg c31] at H
                have c31b0:decide (0<(x4_4.length:Int))=false:=decide_eq_false c31
                have c31b1:decide (0<x4_4.length)=false:=decide_eq_false (by omega)
                clear c31
                (first|rw [c31b0]|(simp only [i64_w,i32_w];rw [c31b0])|rw [c31b1]|skip)
                have H':=Aside0.mk H
                clear H
                obtain ⟨Ao40,co40,eo40⟩:=Kd.R_slice HO_4.out
                subst eo40
                go_wp2
                go_meet
                case rel=>exact ⟨_,(x4_4),H',⟨by have:=HJ1.out;have:=HK2.out;have:=HJ13.out;have:=HK4.out;first|omega|exact Nat.le_refl _⟩,⟨by (with_reducible repeat (first|apply Kd.R_alloc|apply Kd.R_drewN|apply Kd.R_drew));exact HO_4.out⟩,⟨by (with_reducible repeat (first|refine blk_drewN ?_ _|refine blk_drew ?_|refine blk_alloc ?_ _));exact BK262.out⟩,⟨by (with_reducible repeat (first|refine blk_drewN ?_ _|refine blk_drew ?_|refine blk_alloc ?_ _));exact BK267.out⟩,⟨by (with_reducible repeat (first|exact BKM.out|refine blk_drewN ?_ _|refine blk_drew ?_|refine blk_alloc ?_ _|refine obj_far ?_ NBM_267.out _))⟩,⟨by repeat (first|(with_reducible first|exact HB.out|apply below_alloc|apply pw_below_drewN|apply below_drew1|refine below_set ?_ GE262.out|refine below_set ?_ GE267.out)|exact HB.out)⟩⟩
            case rest=>
             clear HC28
             try clear c1
             try clear c2
             try clear p2
             try clear q2
             try clear hx2
             try clear c3
             try clear q3
             try clear c4
             try clear c4b0
             try clear c4b1
             try clear c4b2
             try clear p6
             try clear c7
             try clear c11
             try clear c11b0
             try clear c12
             try clear c12b0
             try clear c13
             try clear c13b0
             try clear c16
             try clear c19
             try clear c20
             try clear c24
             try clear c26
             try clear p26
             try clear q26
             try clear hx26
             try clear c27
             try clear c29
             try clear c31
             try clear c31b0
             try clear c31b1
             try clear c33
             try clear c33b0
             try clear c34
             try clear c34b0
             try clear c35
             try clear c35b0
             try clear c35b1
             try clear c36
             try clear c36b0
             try clear c36b1
             try clear q38
             try clear hcz10_0
             try clear hcz17_0
             try clear hcz17_1
             try clear hcz17_2
             try clear hcz17_3
             try clear hcz17_4
             try clear hcz17_5
             try clear hcz21_0
             try clear hcz21_1
             try clear hcz21_2
             try clear hcz21_3
             try clear hcz21_4
             try clear hcz21_5
             try clear hcz23_0
             try clear hcz23_1
             try clear hcz23_2
             try clear hcz23_3
             try clear hcz23_4
             try clear hcz23_5
             try clear hcz25_0
             try clear hcz25_1
             try clear hcz25_2
             try clear hcz25_3
             try clear hcz25_4
             try clear hcz25_5
             try clear hcz30_0
             try clear hcz30_1
             try clear hcz30_2
             try clear hcz30_3
             try clear hcz30_4
             try clear hcz30_5
             try clear hcz5_0
             try clear hcz6_0
             try clear hfz10_0
             try clear hfz17_0
             try clear hfz17_1
             try clear hfz17_2
             try clear hfz17_3
             try clear hfz17_4
             try clear hfz17_5
             try clear hfz21_0
             try clear hfz21_1
             try clear hfz21_2
             try clear hfz21_3
             try clear hfz21_4
             try clear hfz21_5
             try clear hfz23_0
             try clear hfz23_1
             try clear hfz23_2
             try clear hfz23_3
             try clear hfz23_4
             try clear hfz23_5
             try clear hfz25_0
             try clear hfz25_1
             try clear hfz25_2
             try clear hfz25_3
             try clear hfz25_4
             try clear hfz25_5
             try clear hfz30_0
             try clear hfz30_1
             try clear hfz30_2
             try clear hfz30_3
             try clear hfz30_4
             try clear hfz30_5
             try clear hfz5_0
             try clear hfz6_0
             try clear hx266_0
             try clear hx266_1
             try clear hx266_2
             try clear hx266_3
             try clear hx266_4
             try clear hx266_5
             try clear hx269_0
             try clear p2
             try clear p26
             try clear p266
             try clear p269
             try clear p6
             try clear q2
             try clear q26
             try clear q266
             try clear q269
             try clear q38
             obtain ⟨kq,x4_27,HA,HJ27,HO_4,BK262,BK267,BKM,HB⟩:=hcut
             cases kq with
             |zero=>exact absurd HA.out (by simp [impl_TreeOk.j4])
             |succ kj27=>
              have H:=HA.out
              clear HA
              simp only [impl_TreeOk.j4] at H
              have HC41:=Aside0.mk H
              clear H
              go_upto_region 13 with (fail)
              go_cut [71] (fun v71 wc=>∃ (kq:Nat) (x71_40:Bool),v71=.bool x71_40∧Aside0 (impl_TreeOk.j5 kq (((rd_T57 l0_0 x24_2).f0)::x3_2) x4_27 l0_0 (l0_0.length:Int) x24_2 x71_40 ((rd_T57 l0_0 x24_2).f0) ((rd_T57 l0_0 x24_2).f1) ((rd_T57 l0_0 x24_2).f2) ((rd_T57 l0_0 x24_2).f3) ((rd_T57 l0_0 x24_2).f4) ((rd_T57 l0_0 x24_2).f5)=some r)∧Aside0 (kq≤kj27)∧Aside0 (Kd.R (Kd.int .i64) 3 wc w.heap.size (fun _=>True) u4 x4_27)∧Aside0 (wc.heap[gb262]?=some (.cells #[(.slice (some ad266) l0_0.length c0_0)] 29 (0,0)))∧Aside0 (wc.heap[gb267]?=some (.cells #[.int .i64 ((rd_T57 l0_0 x24_2).f0),.int .i64 ((rd_T57 l0_0 x24_2).f1),.string ((rd_T57 l0_0 x24_2).f2),(.slice A266_3 ((rd_T57 l0_0 x24_2).f3).length c266_3),.string ((rd_T57 l0_0 x24_2).f4),.int .i64 ((rd_T57 l0_0 x24_2).f5)] 57 (0,0)))∧Aside0 (wc.heap[gm]?=some (sobj (Value.int .i64) ((((rd_T57 l0_0 x24_2).f0)::x3_2))))∧Aside0 (Below w.heap.size w wc))
              case first=>
               have H:=HC41.out
               clear HC41
               by_cases c42:x24_2 > 0
               ·rw [if_pos c42] at H
                have c42b0:decide (0<x24_2)=true:=decide_eq_true c42
                clear c42
                (first|rw [c42b0]|(simp only [i64_w,i32_w];rw [c42b0])|rw [c42b1]|skip)
                by_cases c43:(x4_27.length:Int)=0
                ·rw [if_pos c43] at H
                 have c43b0:((x4_27.length:Int)==0)=true:=beq_iff_eq.mpr c43
                 have c43b1:((x4_27.length:Int) != 0)=false:=bne_eq_false_iff_eq.mpr c43
                 clear c43
                 have H':=Aside0.mk H
                 clear H
                 obtain ⟨Ao44,co44,eo44⟩:=Kd.R_slice HO_4.out
                 subst eo44
                 go_wp2
                 go_meet
                 case rel=>exact ⟨_,(true),(by first|rfl|(simp;done)|(simp [*];done)),H',⟨by have:=HJ1.out;have:=HK2.out;have:=HJ13.out;have:=HJ27.out;first|omega|exact Nat.le_refl _⟩,⟨by (with_reducible repeat (first|apply Kd.R_alloc|apply Kd.R_drewN|apply Kd.R_drew));exact HO_4.out⟩,⟨by (with_reducible repeat (first|refine blk_drewN ?_ _|refine blk_drew ?_|refine blk_alloc ?_ _));exact BK262.out⟩,⟨by (with_reducible repeat (first|refine blk_drewN ?_ _|refine blk_drew ?_|refine blk_alloc ?_ _));exact BK267.out⟩,⟨by (with_reducible repeat (first|exact BKM.out|refine blk_drewN ?_ _|refine blk_drew ?_|refine blk_alloc ?_ _|refine obj_far ?_ NBM_267.out _))⟩,⟨by repeat (first|(with_reducible first|exact HB.out|apply below_alloc|apply pw_below_drewN|apply below_drew1|refine below_set ?_ GE262.out|refine below_set ?_ GE267.out)|exact HB.out)⟩⟩
                ·rw [if_neg c43] at H
                 have c43b0:((x4_27.length:Int)==0)=false:=beq_eq_false_iff_ne.mpr c43
                 have c43b1:((x4_27.length:Int) != 0)=true:=bne_iff_ne.mpr c43
                 have c43b2:¬ (x4_27=[]):=fun h_=>c43 (by rw [h_];rfl)
                 have H':=Aside0.mk H
                 clear H
                 obtain ⟨Ao45,co45,eo45⟩:=Kd.R_slice HO_4.out
                 subst eo45
                 go_wp2
                 go_meet
                 case rel=>exact ⟨_,(decide ((x4_27.length:Int) > 400)),(by first|rfl|(simp;done)|(simp [*];done)),H',⟨by have:=HJ1.out;have:=HK2.out;have:=HJ13.out;have:=HJ27.out;first|omega|exact Nat.le_refl _⟩,⟨by (with_reducible repeat (first|apply Kd.R_alloc|apply Kd.R_drewN|apply Kd.R_drew));exact HO_4.out⟩,⟨by (with_reducible repeat (first|refine blk_drewN ?_ _|refine blk_drew ?_|refine blk_alloc ?_ _));exact BK262.out⟩,⟨by (with_reducible repeat (first|refine blk_drewN ?_ _|refine blk_drew ?_|refine blk_alloc ?_ _));exact BK267.out⟩,⟨by (with_reducible repeat (first|exact BKM.out|refine blk_drewN ?_ _|refine blk_drew ?_|refine blk_alloc ?_ _|refine obj_far ?_ NBM_267.out _))⟩,⟨by repeat (first|(with_reducible first|exact HB.out|apply below_alloc|apply pw_below_drewN|apply below_drew1|refine below_set ?_ GE262.out|refine below_set ?_ GE267.out)|exact HB.out)⟩⟩
               ·rw [if_neg c42] at H
                have c42b0:decide (0<x24_2)=false:=decide_eq_false c42
                clear c42
                (first|rw [c42b0]|(simp only [i64_w,i32_w];rw [c42b0])|rw [c42b1]|skip)
                have H':=Aside0.mk H
                clear H
                obtain ⟨Ao46,co46,eo46⟩:=Kd.R_slice HO_4.out
                subst eo46
                go_wp2
                go_meet
                case rel=>exact ⟨_,(decide ((x4_27.length:Int) > 400)),(by first|rfl|(simp;done)|(simp [*];done)),H',⟨by have:=HJ1.out;have:=HK2.out;have:=HJ13.out;have:=HJ27.out;first|omega|exact Nat.le_refl _⟩,⟨by (with_reducible repeat (first|apply Kd.R_alloc|apply Kd.R_drewN|apply Kd.R_drew));exact HO_4.out⟩,⟨by (with_reducible repeat (first|refine blk_drewN ?_ _|refine blk_drew ?_|refine blk_alloc ?_ _));exact BK262.out⟩,⟨by (with_reducible repeat (first|refine blk_drewN ?_ _|refine blk_drew ?_|refine blk_alloc ?_ _));exact BK267.out⟩,⟨by (with_reducible repeat (first|exact BKM.out|refine blk_drewN ?_ _|refine blk_drew ?_|refine blk_alloc ?_ _|refine obj_far ?_ NBM_267.out _))⟩,⟨by repeat (first|(with_reducible first|exact HB.out|apply below_alloc|apply pw_below_drewN|apply below_drew1|refine below_set ?_ GE262.out|refine below_set ?_ GE267.out)|exact HB.out)⟩⟩
              case rest=>
               clear HC41
               try clear c1
               try clear c2
               try clear p2
               try clear q2
               try clear hx2
               try clear c3
               try clear q3
               try clear c4
               try clear c4b0
               try clear c4b1
               try clear c4b2
               try clear p6
               try clear c7
               try clear c11
               try clear c11b0
               try clear c12
               try clear c12b0
               try clear c13
               try clear c13b0
               try clear c16
               try clear c19
               try clear c20
               try clear c24
               try clear c26
               try clear p26
               try clear q26
               try clear hx26
               try clear c27
               try clear c29
               try clear c31
               try clear c31b0
               try clear c31b1
               try clear c33
               try clear c33b0
               try clear c34
               try clear c34b0
               try clear c35
               try clear c35b0
               try clear c35b1
               try clear c36
               try clear c36b0
               try clear c36b1
               try clear q38
               try clear c42
               try clear c42b0
               try clear c43
               try clear c43b0
               try clear c43b1
               try clear c43b2
               try clear hcz10_0
               try clear hcz17_0
               try clear hcz17_1
               try clear hcz17_2
               try clear hcz17_3
               try clear hcz17_4
               try clear hcz17_5
               try clear hcz21_0
               try clear hcz21_1
               try clear hcz21_2
               try clear hcz21_3
               try clear hcz21_4
               try clear hcz21_5
               try clear hcz23_0
               try clear hcz23_1
               try clear hcz23_2
               try clear hcz23_3
               try clear hcz23_4
               try clear hcz23_5
               try clear hcz25_0
               try clear hcz25_1
               try clear hcz25_2
               try clear hcz25_3
               try clear hcz25_4
               try clear hcz25_5
               try clear hcz30_0
               try clear hcz30_1
               try clear hcz30_2
               try clear hcz30_3
               try clear hcz30_4
               try clear hcz30_5
               try clear hcz5_0
               try clear hcz6_0
               try clear hfz10_0
               try clear hfz17_0
               try clear hfz17_1
               try clear hfz17_2
               try clear hfz17_3
               try clear hfz17_4
               try clear hfz17_5
               try clear hfz21_0
               try clear hfz21_1
               try clear hfz21_2
               try clear hfz21_3
               try clear hfz21_4
               try clear hfz21_5
               try clear hfz23_0
               try clear hfz23_1
               try clear hfz23_2
               try clear hfz23_3
               try clear hfz23_4
               try clear hfz23_5
               try clear hfz25_0
               try clear hfz25_1
               try clear hfz25_2
               try clear hfz25_3
               try clear hfz25_4
               try clear hfz25_5
               try clear hfz30_0
               try clear hfz30_1
               try clear hfz30_2
               try clear hfz30_3
               try clear hfz30_4
               try clear hfz30_5
               try clear hfz5_0
               try clear hfz6_0
               try clear hx266_0
               try clear hx266_1
               try clear hx266_2
               try clear hx266_3
               try clear hx266_4
               try clear hx266_5
               try clear hx269_0
               try clear p2
               try clear p26
               try clear p266
               try clear p269
               try clear p6
               try clear q2
               try clear q26
               try clear q266
               try clear q269
               try clear q3
               try clear q38
               obtain ⟨kq,x71_40,rfl,HA,HJ40,HO_4,BK262,BK267,BKM,HB⟩:=hcut
               cases kq with
               |zero=>exact absurd HA.out (by simp [impl_TreeOk.j5])
               |succ kj40=>
                have H:=HA.out
                clear HA
                simp only [impl_TreeOk.j5] at H
                by_cases c47:x71_40=true
                ·subst c47
                 have H1:(some false)=some r:=by rw [if_pos rfl] at H;exact H
                 clear H
                 have H:=H1
                 clear H1
                 obtain rfl:=Option.some.inj H
                 go_wp2
                 go_ret
                 exact ⟨by first|rfl|(simp [errW_none,errW_some]<;>rfl)|(simp [*,errW_none,errW_some]<;>rfl),by repeat (first|(with_reducible first|exact HB.out|apply below_alloc|apply pw_below_drewN|apply below_drew1|refine below_set ?_ GE262.out|refine below_set ?_ GE267.out)|exact HB.out)⟩
                ·replace c47:=Bool.eq_false_iff.mpr c47
                 subst c47
                 have H1:(if (x4_27.length:Int) > 0 then (if 0≤(wrap64 ((x4_27.length:Int) - 1)) then (if (wrap64 ((x4_27.length:Int) - 1))<(x4_27.length:Int) then ((some (x4_27.set ((wrap64 ((x4_27.length:Int) - 1)):Int).toNat (wrap64 ((rd x4_27 (wrap64 ((x4_27.length:Int) - 1))) - 1)):List Int)).bind fun y274=>(if y274.length<17592186044416 then (impl_TreeOk.l0 kj40 (((rd_T57 l0_0 x24_2).f0)::x3_2) (y274++[((rd_T57 l0_0 x24_2).f5)]) l0_0 (l0_0.length:Int) (wrap64 (x24_2+1))) else (none))) else (none)) else (none)) else (if x4_27.length<17592186044416 then (impl_TreeOk.l0 kj40 (((rd_T57 l0_0 x24_2).f0)::x3_2) (x4_27++[((rd_T57 l0_0 x24_2).f5)]) l0_0 (l0_0.length:Int) (wrap64 (x24_2+1))) else (none)))=some r:=by rw [if_neg (show ¬ (false=true) by decide)] at H;exact H
                 clear H
                 have H:=H1
                 clear H1
                 by_cases c48:(x4_27.length:Int) > 0
                 ·rw [if_pos c48] at H
                  have c48b0:decide (0<(x4_27.length:Int))=true:=decide_eq_true c48
                  have c48b1:decide (0<x4_27.length)=true:=decide_eq_true (by omega)
                  clear c48
                  obtain ⟨ji49,hji49⟩:∃ j_:Int,(wrap64 ((x4_27.length:Int) - 1))=j_:=⟨_,rfl⟩
                  replace H:(if 0≤(ji49) then (if (ji49)<(x4_27.length:Int) then ((some (x4_27.set ((ji49):Int).toNat (wrap64 ((rd x4_27 (ji49)) - 1)):List Int)).bind fun y274=>(if y274.length<17592186044416 then (impl_TreeOk.l0 kj40 (((rd_T57 l0_0 x24_2).f0)::x3_2) (y274++[((rd_T57 l0_0 x24_2).f5)]) l0_0 (l0_0.length:Int) (wrap64 (x24_2+1))) else (none))) else (none)) else (none))=some r:=by first|(rw [hji49] at H;exact H)|(simp only [hji49] at H ⊢;exact H)
                  have hji49w:(IntKind.i64.wrap ((x4_27.length:Int) - 1))=ji49:=(i64_w _).trans hji49
                  by_cases c50:0≤(ji49)
                  ·rw [if_pos c50] at H
                   have c50b0:decide (0≤(ji49))=true:=decide_eq_true c50
                   clear c50
                   by_cases c51:(ji49)<(x4_27.length:Int)
                   ·rw [if_pos c51] at H
                    have c51b0:decide ((ji49)<(x4_27.length:Int))=true:=decide_eq_true c51
                    clear c51
                    obtain ⟨y274,hy274⟩:∃ y_:List Int,y_=(x4_27.set ((ji49):Int).toNat (wrap64 ((rd x4_27 (ji49)) - 1))):=⟨_,rfl⟩
                    replace H:(if y274.length<17592186044416 then (impl_TreeOk.l0 kj40 (((rd_T57 l0_0 x24_2).f0)::x3_2) (y274++[((rd_T57 l0_0 x24_2).f5)]) l0_0 (l0_0.length:Int) (wrap64 (x24_2+1))) else (none))=some r:=by first|(rw [hy274];with_reducible exact H)|(have H2_:=(Option.bind_some _ _).symm.trans H;rw [hy274];with_reducible exact H2_)|(have H2_:=(Option.bind_some _ _).symm.trans H;with_reducible exact H2_)|with_reducible exact H|(rw [hy274];exact H)|exact H
                    have Ny274:=Aside0.mk hy274
                    clear hy274
                    by_cases c53:y274.length<17592186044416
                    ·rw [if_pos c53] at H
                     have LMc53:=Aside0.mk c53
                     clear c53
                     obtain ⟨y275,hy275⟩:∃ y_:List Int,y_=(y274++[((rd_T57 l0_0 x24_2).f5)]):=⟨_,rfl⟩
                     replace H:(impl_TreeOk.l0 kj40 (((rd_T57 l0_0 x24_2).f0)::x3_2) y275 l0_0 (l0_0.length:Int) (wrap64 (x24_2+1)))=some r:=by first|(rw [hy275];with_reducible exact H)|(have H2_:=(Option.bind_some _ _).symm.trans H;rw [hy275];with_reducible exact H2_)|(have H2_:=(Option.bind_some _ _).symm.trans H;with_reducible exact H2_)|with_reducible exact H|(rw [hy275];exact H)|exact H
                     have Ny275:=Aside0.mk hy275
                     clear hy275
                     have H':=Aside0.mk H
                     clear H
                     obtain ⟨Ao54,co54,eo54⟩:=Kd.R_slice HO_4.out
                     subst eo54
                     have p273:0≤((ji49):Int):=of_decide_eq_true (by first|(with_reducible assumption)|assumption)
                     have q273:(ji49)<(x4_27.length:Int):=of_decide_eq_true (by first|(with_reducible assumption)|assumption)
                     obtain ⟨ad273,e273,hx273_0⟩:=Kd.at_int (Kd.R_reads' HO_4.out).2.2 (ji49) p273 q273
                     cases e273
                     replace p273:=eq_true p273
                     replace q273:=eq_true q273
                     have p52:0≤((ji49):Int):=of_decide_eq_true (by first|(with_reducible assumption)|assumption)
                     have q52:((ji49):Int)<((x4_27.length:Int):Int):=of_decide_eq_true (by first|(with_reducible assumption)|assumption)
                     obtain ⟨go52,co52,eo52,gb52,gl52,cl52,HG52⟩:=Kd.R_form HO_4.out (by omega)
                     (first|cases eo52|(injection eo52 with ea_ en_ ec_;(first|subst ea_|(injection ea_ with ea_;subst ea_));subst ec_;clear en_))
                     have GB52:=Aside0.mk gb52
                     have GG52:=Aside0.mk HG52
                     clear gb52 gl52 HG52
                     (first|simp only [add_plain] at hx273_0|skip)
                     obtain ⟨hx52_0,hf52_0⟩:=Kd.R_celln 0 HO_4.out ((ji49):Int) p52 q52
                     replace p52:=eq_true p52
                     replace q52:=eq_true q52
                     have HP55:=Kd.R_putg HO_4.out ((ji49):Int) (wrap64 ((rd x4_27 (ji49)) - 1))
                     go_wp2_with (first|((with_reducible refine gate_store (t:=3) (p:=82) rfl ?_);refine store_event (t:=3) (p:=82) (v:=?vo_w56) (w1:=(wc.setCell ⟨go52,((ji49):Int).toNat,none⟩ (.int .i64 (wrap64 ((rd x4_27 (ji49)) - 1))))) ?hg ?ho ?hn ?hr ?_;(case ho=>rfl);(case hg=>rfl);(case hn=>rfl);(case hr=>first|(go_simp;done)|(go_simp;rfl));intro w56 hw;have hg:wc.grownBy w56 (some go52):=(by rw [hw];exact HP55.2);have hp_:Kd.R (Kd.int .i64) 3 w56 w.heap.size (fun _=>True) (.slice (some ⟨go52,0,none⟩) x4_27.length co54) y274:=(by rw [hw,Ny274.out];exact HP55.1);clear HP55;have n0_:=Aside0.mk (hp_);have n1_:=Aside0.mk (blk_grown (g:=gb262) (o:=.cells #[.slice (some ad266) l0_0.length c0_0] 29 (0,0)) (by (with_reducible repeat (first|refine blk_drewN ?_ _|refine blk_drew ?_|refine blk_alloc ?_ _));exact BK262.out) hg (Kd.R_ne HO_4.out BK262.out (by decide)));have m1_:=Aside0.mk (blk_grown (g:=gm) (o:=sobj (Value.int .i64) ((((rd_T57 l0_0 x24_2).f0)::x3_2))) (by (with_reducible repeat (first|refine blk_drewN ?_ _|refine blk_drew ?_|refine blk_alloc ?_ _));exact BKM.out) hg (R_ne_map HO_4.out BKM.out));have n2_:=Aside0.mk (blk_grown (g:=gb267) (o:=.cells #[.int .i64 ((rd_T57 l0_0 x24_2).f0),.int .i64 ((rd_T57 l0_0 x24_2).f1),.string ((rd_T57 l0_0 x24_2).f2),.slice A266_3 ((rd_T57 l0_0 x24_2).f3).length c266_3,.string ((rd_T57 l0_0 x24_2).f4),.int .i64 ((rd_T57 l0_0 x24_2).f5)] 57 (0,0)) (by (with_reducible repeat (first|refine blk_drewN ?_ _|refine blk_drew ?_|refine blk_alloc ?_ _));exact BK267.out) hg (Kd.R_ne HO_4.out BK267.out (by decide)));have n3_:=Aside0.mk ((by rw [hw];exact below_set (HB.out) GB52.out:Below w.heap.size w w56));clear HO_4;clear BK262;clear BKM;clear BK267;clear HB;have HO_4:=n0_;have BK262:=n1_;have BKM:=m1_;have BK267:=n2_;have HB:=n3_;clear n0_ n1_ n2_ n3_;(try clear m1_ m0_);clear hg hw hp_;have hnb57:=NB267_262.out;have hnc57:=NB262_267.out;have hcz58_0:w56.cell? ⟨gb267,0,none⟩=some (.int .i64 ((rd_T57 l0_0 x24_2).f0)):=(blk_cell BK267.out 0).trans rfl;have hcz58_1:w56.cell? ⟨gb267,1,none⟩=some (.int .i64 ((rd_T57 l0_0 x24_2).f1)):=(blk_cell BK267.out 1).trans rfl;have hcz58_2:w56.cell? ⟨gb267,2,none⟩=some (.string ((rd_T57 l0_0 x24_2).f2)):=(blk_cell BK267.out 2).trans rfl;have hcz58_3:w56.cell? ⟨gb267,3,none⟩=some (.slice A266_3 ((rd_T57 l0_0 x24_2).f3).length c266_3):=(blk_cell BK267.out 3).trans rfl;have hcz58_4:w56.cell? ⟨gb267,4,none⟩=some (.string ((rd_T57 l0_0 x24_2).f4)):=(blk_cell BK267.out 4).trans rfl;have hcz58_5:w56.cell? ⟨gb267,5,none⟩=some (.int .i64 ((rd_T57 l0_0 x24_2).f5)):=(blk_cell BK267.out 5).trans rfl;have hfz58_0:=blk_frozen BK267.out 0;have hfz58_1:=blk_frozen BK267.out 1;have hfz58_2:=blk_frozen BK267.out 2;have hfz58_3:=blk_frozen BK267.out 3;have hfz58_4:=blk_frozen BK267.out 4;have hfz58_5:=blk_frozen BK267.out 5)|((with_reducible refine gate_builtin (b:=.append) (xs:=#[.tmp 83,.tmp 86]) rfl ?_);(try (refine gate_guard (by rfl) ?_;dsimp only));at_builtin;refine Kd.R_append (Kd.int .i64) (w0:=w) w.heap.size rfl (.tmp 83) (.tmp 86) 65 3 (.int .i64 0) 8 rfl Tryz.underlying65 info3 rfl (by decide) (by omega) (.slice (some ⟨go52,0,none⟩) x4_27.length co54) y274 ((rd_T57 l0_0 x24_2).f5) [.int .i64 ((rd_T57 l0_0 x24_2).f5)] (fun _=>True) (fun _=>False) rfl rfl ?aP (fun _ hk=>hk.elim) ?aF ?aO ?aB ?aS ?aL ?_;(case aP=>exact rfl);(case aB=>exact (by repeat (first|(with_reducible first|exact HB.out|apply below_alloc|apply pw_below_drewN|apply below_drew1|refine below_set ?_ GE262.out|refine below_set ?_ GE267.out)|exact HB.out)));(case aF=>exact (fun _ _=>trivial));(case aO=>exact (by (with_reducible repeat (first|apply Kd.R_alloc|apply Kd.R_drewN|apply Kd.R_drew));exact HO_4.out));(case aS=>exact (below_size (by repeat (first|(with_reducible first|exact HB.out|apply below_alloc|apply pw_below_drewN|apply below_drew1|refine below_set ?_ GE262.out|refine below_set ?_ GE267.out)|exact HB.out))));(case aL=>have:=LMc53.out;omega);intro v276 w59 ho hb hg hat;rw [← Ny275.out] at ho;have n0_:=Aside0.mk (blk_grown (g:=gb262) (o:=.cells #[.slice (some ad266) l0_0.length c0_0] 29 (0,0)) (by (with_reducible repeat (first|refine blk_drewN ?_ _|refine blk_drew ?_|refine blk_alloc ?_ _));exact BK262.out) hg (Kd.R_ne HO_4.out BK262.out (by decide)));have m0_:=Aside0.mk (blk_grown (g:=gm) (o:=sobj (Value.int .i64) ((((rd_T57 l0_0 x24_2).f0)::x3_2))) (by (with_reducible repeat (first|refine blk_drewN ?_ _|refine blk_drew ?_|refine blk_alloc ?_ _));exact BKM.out) hg (R_ne_map HO_4.out BKM.out));have n1_:=Aside0.mk (blk_grown (g:=gb267) (o:=.cells #[.int .i64 ((rd_T57 l0_0 x24_2).f0),.int .i64 ((rd_T57 l0_0 x24_2).f1),.string ((rd_T57 l0_0 x24_2).f2),.slice A266_3 ((rd_T57 l0_0 x24_2).f3).length c266_3,.string ((rd_T57 l0_0 x24_2).f4),.int .i64 ((rd_T57 l0_0 x24_2).f5)] 57 (0,0)) (by (with_reducible repeat (first|refine blk_drewN ?_ _|refine blk_drew ?_|refine blk_alloc ?_ _));exact BK267.out) hg (Kd.R_ne HO_4.out BK267.out (by decide)));have n2_:=Aside0.mk (hb);have n3_:=Aside0.mk (ho);clear BK262;clear BKM;clear BK267;clear HB;clear HO_4;have BK262:=n0_;have BKM:=m0_;have BK267:=n1_;have HB:=n2_;have HO277:=n3_;clear n0_ n1_ n2_ n3_;(try clear m1_ m0_);clear ho hb hg hat))
                     go_roundg kj40
                     case measure=>have:=HJ1.out;have:=HK2.out;have:=HJ13.out;have:=HJ27.out;have:=HJ40.out;omega
                     case rel=>exact ⟨((((rd_T57 l0_0 x24_2).f0)::x3_2)),(y275),(wrap64 (x24_2+1)),(by first|rfl|(simp;done)|(simp [*];done)),H',⟨by have:=HJ1.out;have:=HK2.out;have:=HJ13.out;have:=HJ27.out;have:=HJ40.out;omega⟩,⟨by (with_reducible repeat (first|apply Kd.R_alloc|apply Kd.R_drewN|apply Kd.R_drew));exact HO277.out⟩,⟨by (with_reducible repeat (first|refine blk_drewN ?_ _|refine blk_drew ?_|refine blk_alloc ?_ _));exact BK262.out⟩,⟨by (with_reducible repeat (first|exact BKM.out|refine blk_drewN ?_ _|refine blk_drew ?_|refine blk_alloc ?_ _|refine obj_far ?_ NBM_267.out _))⟩,⟨by repeat (first|(with_reducible first|exact HB.out|apply below_alloc|apply pw_below_drewN|apply below_drew1|refine below_set ?_ GE262.out|refine below_set ?_ GE267.out)|exact HB.out)⟩⟩
                    ·rw [if_neg c53] at H
                     exact absurd H (by simp)
                   ·rw [if_neg c51] at H
                    exact absurd H (by simp)
                  ·rw [if_neg c50] at H
                   exact absurd H (by simp)
                 ·rw [if_neg c48] at H
                  have c48b0:decide (0<(x4_27.length:Int))=false:=decide_eq_false c48
                  have c48b1:decide (0<x4_27.length)=false:=decide_eq_false (by omega)
                  clear c48
                  by_cases c60:x4_27.length<17592186044416
                  ·rw [if_pos c60] at H
                   have LMc60:=Aside0.mk c60
                   clear c60
                   obtain ⟨y278,hy278⟩:∃ y_:List Int,y_=(x4_27++[((rd_T57 l0_0 x24_2).f5)]):=⟨_,rfl⟩
                   replace H:(impl_TreeOk.l0 kj40 (((rd_T57 l0_0 x24_2).f0)::x3_2) y278 l0_0 (l0_0.length:Int) (wrap64 (x24_2+1)))=some r:=by first|(rw [hy278];with_reducible exact H)|(have H2_:=(Option.bind_some _ _).symm.trans H;rw [hy278];with_reducible exact H2_)|(have H2_:=(Option.bind_some _ _).symm.trans H;with_reducible exact H2_)|with_reducible exact H|(rw [hy278];exact H)|exact H
                   have Ny278:=Aside0.mk hy278
                   clear hy278
                   have H':=Aside0.mk H
                   clear H
                   obtain ⟨Ao61,co61,eo61⟩:=Kd.R_slice HO_4.out
                   subst eo61
                   have hnb62:=NB267_262.out
                   have hnc62:=NB262_267.out
                   have hcz63_0:wc.cell? ⟨gb267,0,none⟩=some (.int .i64 ((rd_T57 l0_0 x24_2).f0)):=(blk_cell BK267.out 0).trans rfl
                   have hcz63_1:wc.cell? ⟨gb267,1,none⟩=some (.int .i64 ((rd_T57 l0_0 x24_2).f1)):=(blk_cell BK267.out 1).trans rfl
                   have hcz63_2:wc.cell? ⟨gb267,2,none⟩=some (.string ((rd_T57 l0_0 x24_2).f2)):=(blk_cell BK267.out 2).trans rfl
                   have hcz63_3:wc.cell? ⟨gb267,3,none⟩=some (.slice A266_3 ((rd_T57 l0_0 x24_2).f3).length c266_3):=(blk_cell BK267.out 3).trans rfl
                   have hcz63_4:wc.cell? ⟨gb267,4,none⟩=some (.string ((rd_T57 l0_0 x24_2).f4)):=(blk_cell BK267.out 4).trans rfl
                   have hcz63_5:wc.cell? ⟨gb267,5,none⟩=some (.int .i64 ((rd_T57 l0_0 x24_2).f5)):=(blk_cell BK267.out 5).trans rfl
                   have hfz63_0:=blk_frozen BK267.out 0
                   have hfz63_1:=blk_frozen BK267.out 1
                   have hfz63_2:=blk_frozen BK267.out 2
                   have hfz63_3:=blk_frozen BK267.out 3
                   have hfz63_4:=blk_frozen BK267.out 4
                   have hfz63_5:=blk_frozen BK267.out 5
                   go_wp2_with (first|((with_reducible refine gate_builtin (b:=.append) (xs:=#[.tmp 83,.tmp 86]) rfl ?_);(try (refine gate_guard (by rfl) ?_;dsimp only));at_builtin;refine Kd.R_append (Kd.int .i64) (w0:=w) w.heap.size rfl (.tmp 83) (.tmp 86) 65 3 (.int .i64 0) 8 rfl Tryz.underlying65 info3 rfl (by decide) (by omega) (.slice Ao61 x4_27.length co61) x4_27 ((rd_T57 l0_0 x24_2).f5) [.int .i64 ((rd_T57 l0_0 x24_2).f5)] (fun _=>True) (fun _=>False) rfl rfl ?aP (fun _ hk=>hk.elim) ?aF ?aO ?aB ?aS ?aL ?_;(case aP=>exact rfl);(case aB=>exact (by repeat (first|(with_reducible first|exact HB.out|apply below_alloc|apply pw_below_drewN|apply below_drew1|refine below_set ?_ GE262.out|refine below_set ?_ GE267.out)|exact HB.out)));(case aF=>exact (fun _ _=>trivial));(case aO=>exact (by (with_reducible repeat (first|apply Kd.R_alloc|apply Kd.R_drewN|apply Kd.R_drew));exact HO_4.out));(case aS=>exact (below_size (by repeat (first|(with_reducible first|exact HB.out|apply below_alloc|apply pw_below_drewN|apply below_drew1|refine below_set ?_ GE262.out|refine below_set ?_ GE267.out)|exact HB.out))));(case aL=>have:=LMc60.out;omega);intro v279 w64 ho hb hg hat;rw [← Ny278.out] at ho;have n0_:=Aside0.mk (blk_grown (g:=gb262) (o:=.cells #[.slice (some ad266) l0_0.length c0_0] 29 (0,0)) (by (with_reducible repeat (first|refine blk_drewN ?_ _|refine blk_drew ?_|refine blk_alloc ?_ _));exact BK262.out) hg (Kd.R_ne HO_4.out BK262.out (by decide)));have m0_:=Aside0.mk (blk_grown (g:=gm) (o:=sobj (Value.int .i64) ((((rd_T57 l0_0 x24_2).f0)::x3_2))) (by (with_reducible repeat (first|refine blk_drewN ?_ _|refine blk_drew ?_|refine blk_alloc ?_ _));exact BKM.out) hg (R_ne_map HO_4.out BKM.out));have n1_:=Aside0.mk (blk_grown (g:=gb267) (o:=.cells #[.int .i64 ((rd_T57 l0_0 x24_2).f0),.int .i64 ((rd_T57 l0_0 x24_2).f1),.string ((rd_T57 l0_0 x24_2).f2),.slice A266_3 ((rd_T57 l0_0 x24_2).f3).length c266_3,.string ((rd_T57 l0_0 x24_2).f4),.int .i64 ((rd_T57 l0_0 x24_2).f5)] 57 (0,0)) (by (with_reducible repeat (first|refine blk_drewN ?_ _|refine blk_drew ?_|refine blk_alloc ?_ _));exact BK267.out) hg (Kd.R_ne HO_4.out BK267.out (by decide)));have n2_:=Aside0.mk (hb);have n3_:=Aside0.mk (ho);clear BK262;clear BKM;clear BK267;clear HB;clear HO_4;have BK262:=n0_;have BKM:=m0_;have BK267:=n1_;have HB:=n2_;have HO280:=n3_;clear n0_ n1_ n2_ n3_;(try clear m0_);clear ho hb hg hat))
                   go_roundg kj40
                   case measure=>have:=HJ1.out;have:=HK2.out;have:=HJ13.out;have:=HJ27.out;have:=HJ40.out;omega
                   case rel=>exact ⟨((((rd_T57 l0_0 x24_2).f0)::x3_2)),(y278),(wrap64 (x24_2+1)),(by first|rfl|(simp;done)|(simp [*];done)),H',⟨by have:=HJ1.out;have:=HK2.out;have:=HJ13.out;have:=HJ27.out;have:=HJ40.out;omega⟩,⟨by (with_reducible repeat (first|apply Kd.R_alloc|apply Kd.R_drewN|apply Kd.R_drew));exact HO280.out⟩,⟨by (with_reducible repeat (first|refine blk_drewN ?_ _|refine blk_drew ?_|refine blk_alloc ?_ _));exact BK262.out⟩,⟨by (with_reducible repeat (first|exact BKM.out|refine blk_drewN ?_ _|refine blk_drew ?_|refine blk_alloc ?_ _|refine obj_far ?_ NBM_267.out _))⟩,⟨by repeat (first|(with_reducible first|exact HB.out|apply below_alloc|apply pw_below_drewN|apply below_drew1|refine below_set ?_ GE262.out|refine below_set ?_ GE267.out)|exact HB.out)⟩⟩
                  ·rw [if_neg c60] at H
                   exact absurd H (by simp)
        ·rw [if_neg c13] at H
         exact absurd H (by simp)
       ·rw [if_neg c12] at H
        exact absurd H (by simp)
      ·rw [if_neg c11] at H
       have c11b0:decide (x24_2<(l0_0.length:Int))=false:=decide_eq_false c11
       clear c11
       have H':=Aside0.mk H
       clear H
       obtain ⟨Ao65,co65,eo65⟩:=Kd.R_slice HO_4.out
       subst eo65
       go_wp2
       go_loopg [91] k2 (fun kq v91 w'=>∃ (x91_3:Int),v91=.int .i64 x91_3∧Aside0 (impl_TreeOk.l2 kq x4_2 (x4_2.length:Int) x91_3=some r)∧Aside0 (kq≤k2)∧Aside0 (Kd.R (Kd.int .i64) 3 w' w.heap.size (fun _=>True) (.slice Ao65 x4_2.length co65) x4_2)∧Aside0 (w'.heap[gb262]?=some (.cells #[(.slice A0_0 l0_0.length c0_0)] 29 (0,0)))∧Aside0 (w'.heap[gm]?=some (sobj (Value.int .i64) (x3_2)))∧Aside0 (Below w.heap.size w w'))
       case atStart=>exact ⟨(0),(by first|rfl|(simp;done)|(simp [*];done)),H',⟨Nat.le_refl _⟩,⟨by (with_reducible repeat (first|apply Kd.R_alloc|apply Kd.R_drewN|apply Kd.R_drew));exact HO_4.out⟩,⟨by (with_reducible repeat (first|refine blk_drewN ?_ _|refine blk_drew ?_|refine blk_alloc ?_ _));exact BK262.out⟩,⟨by (with_reducible repeat (first|exact BKM.out|refine blk_drewN ?_ _|refine blk_drew ?_|refine blk_alloc ?_ _|refine obj_far ?_ NBM_267.out _))⟩,⟨by repeat (first|(with_reducible first|exact HB.out|apply below_alloc|apply pw_below_drewN|apply below_drew1|refine below_set ?_ GE262.out)|exact HB.out)⟩⟩
       case round=>
        clear H'
        try clear c1
        try clear c2
        try clear p2
        try clear q2
        try clear hx2
        try clear c3
        try clear q3
        try clear c4
        try clear c4b0
        try clear c4b1
        try clear c4b2
        try clear c5
        try clear p5
        try clear q5
        try clear hx5
        try clear hf5
        try clear c6
        try clear p6
        try clear c7
        try clear c11
        try clear c11b0
        try clear c12
        try clear c12b0
        try clear c13
        try clear c13b0
        try clear c16
        try clear c19
        try clear c20
        try clear c24
        try clear c26
        try clear p26
        try clear q26
        try clear hx26
        try clear c27
        try clear p27
        try clear q27
        try clear hx27
        try clear c29
        try clear c31
        try clear c31b0
        try clear c31b1
        try clear c33
        try clear c33b0
        try clear c34
        try clear c34b0
        try clear c35
        try clear c35b0
        try clear c35b1
        try clear c36
        try clear c36b0
        try clear c36b1
        try clear q38
        try clear c42
        try clear c42b0
        try clear c43
        try clear c43b0
        try clear c43b1
        try clear c43b2
        try clear c47
        try clear c48
        try clear c48b0
        try clear c48b1
        try clear c50
        try clear c50b0
        try clear c51
        try clear c51b0
        try clear p52
        try clear q52
        try clear hx52
        try clear hf52
        try clear c53
        try clear c57
        try clear c60
        try clear c62
        try clear p64
        try clear hcz10_0
        try clear hcz17_0
        try clear hcz17_1
        try clear hcz17_2
        try clear hcz17_3
        try clear hcz17_4
        try clear hcz17_5
        try clear hcz21_0
        try clear hcz21_1
        try clear hcz21_2
        try clear hcz21_3
        try clear hcz21_4
        try clear hcz21_5
        try clear hcz23_0
        try clear hcz23_1
        try clear hcz23_2
        try clear hcz23_3
        try clear hcz23_4
        try clear hcz23_5
        try clear hcz25_0
        try clear hcz25_1
        try clear hcz25_2
        try clear hcz25_3
        try clear hcz25_4
        try clear hcz25_5
        try clear hcz30_0
        try clear hcz30_1
        try clear hcz30_2
        try clear hcz30_3
        try clear hcz30_4
        try clear hcz30_5
        try clear hcz58_0
        try clear hcz58_1
        try clear hcz58_2
        try clear hcz58_3
        try clear hcz58_4
        try clear hcz58_5
        try clear hcz5_0
        try clear hcz63_0
        try clear hcz63_1
        try clear hcz63_2
        try clear hcz63_3
        try clear hcz63_4
        try clear hcz63_5
        try clear hcz6_0
        try clear hfz10_0
        try clear hfz17_0
        try clear hfz17_1
        try clear hfz17_2
        try clear hfz17_3
        try clear hfz17_4
        try clear hfz17_5
        try clear hfz21_0
        try clear hfz21_1
        try clear hfz21_2
        try clear hfz21_3
        try clear hfz21_4
        try clear hfz21_5
        try clear hfz23_0
        try clear hfz23_1
        try clear hfz23_2
        try clear hfz23_3
        try clear hfz23_4
        try clear hfz23_5
        try clear hfz25_0
        try clear hfz25_1
        try clear hfz25_2
        try clear hfz25_3
        try clear hfz25_4
        try clear hfz25_5
        try clear hfz30_0
        try clear hfz30_1
        try clear hfz30_2
        try clear hfz30_3
        try clear hfz30_4
        try clear hfz30_5
        try clear hfz58_0
        try clear hfz58_1
        try clear hfz58_2
        try clear hfz58_3
        try clear hfz58_4
        try clear hfz58_5
        try clear hfz5_0
        try clear hfz63_0
        try clear hfz63_1
        try clear hfz63_2
        try clear hfz63_3
        try clear hfz63_4
        try clear hfz63_5
        try clear hfz6_0
        try clear hx266_0
        try clear hx266_1
        try clear hx266_2
        try clear hx266_3
        try clear hx266_4
        try clear hx266_5
        try clear hx269_0
        try clear hx273_0
        try clear hx52_0
        try clear p2
        try clear p26
        try clear p266
        try clear p269
        try clear p273
        try clear p52
        try clear p6
        try clear q2
        try clear q26
        try clear q266
        try clear q269
        try clear q273
        try clear q3
        try clear q38
        try clear q52
        obtain ⟨x91_3,rfl,HA,HK3,HO_89,BK262,BKM,HB⟩:=hrel
        cases gk with
        |zero=>exact absurd HA.out (by simp [impl_TreeOk.l2])
        |succ k3=>
         have H:=HA.out
         clear HA
         simp only [impl_TreeOk.l2] at H
         by_cases c66:x91_3<(x4_2.length:Int)
         ·rw [if_pos c66] at H
          have c66b0:decide (x91_3<(x4_2.length:Int))=true:=decide_eq_true c66
          clear c66
          by_cases c67:0≤x91_3
          ·rw [if_pos c67] at H
           have c67b0:decide (0≤x91_3)=true:=decide_eq_true c67
           clear c67
           by_cases c68:x91_3<(x4_2.length:Int)
           ·rw [if_pos c68] at H
            have c68b0:decide (x91_3<(x4_2.length:Int))=true:=decide_eq_true c68
            clear c68
            by_cases c69:(rd x4_2 x91_3)=0
            ·rw [if_pos c69] at H
             have c69b0:((rd x4_2 x91_3)==0)=true:=beq_iff_eq.mpr c69
             have c69b1:((rd x4_2 x91_3) != 0)=false:=bne_eq_false_iff_eq.mpr c69
             clear c69
             have H':=Aside0.mk H
             clear H
             have p281:0≤(x91_3:Int):=of_decide_eq_true (by first|(with_reducible assumption)|assumption)
             have q281:x91_3<(x4_2.length:Int):=of_decide_eq_true (by first|(with_reducible assumption)|assumption)
             obtain ⟨ad281,e281,hx281_0⟩:=Kd.at_int (Kd.R_reads' HO_89.out).2.2 x91_3 p281 q281
             cases e281
             replace p281:=eq_true p281
             replace q281:=eq_true q281
             go_wp2
             go_roundg k3
             case measure=>have:=HJ1.out;have:=HK2.out;have:=HK3.out;omega
             case rel=>exact ⟨(wrap64 (x91_3+1)),(by first|rfl|(simp;done)|(simp [*];done)),H',⟨by have:=HJ1.out;have:=HK2.out;have:=HK3.out;omega⟩,⟨by (with_reducible repeat (first|apply Kd.R_alloc|apply Kd.R_drewN|apply Kd.R_drew));exact HO_89.out⟩,⟨by (with_reducible repeat (first|refine blk_drewN ?_ _|refine blk_drew ?_|refine blk_alloc ?_ _));exact BK262.out⟩,⟨by (with_reducible repeat (first|exact BKM.out|refine blk_drewN ?_ _|refine blk_drew ?_|refine blk_alloc ?_ _|refine obj_far ?_ NBM_267.out _))⟩,⟨by repeat (first|(with_reducible first|exact HB.out|apply below_alloc|apply pw_below_drewN|apply below_drew1|refine below_set ?_ GE262.out)|exact HB.out)⟩⟩
            ·rw [if_neg c69] at H
             have c69b0:((rd x4_2 x91_3)==0)=false:=beq_eq_false_iff_ne.mpr c69
             have c69b1:((rd x4_2 x91_3) != 0)=true:=bne_iff_ne.mpr c69
             obtain rfl:=Option.some.inj H
             have p281:0≤(x91_3:Int):=of_decide_eq_true (by first|(with_reducible assumption)|assumption)
             have q281:x91_3<(x4_2.length:Int):=of_decide_eq_true (by first|(with_reducible assumption)|assumption)
             obtain ⟨ad281,e281,hx281_0⟩:=Kd.at_int (Kd.R_reads' HO_89.out).2.2 x91_3 p281 q281
             cases e281
             replace p281:=eq_true p281
             replace q281:=eq_true q281
             go_wp2
             go_ret
             exact ⟨by first|rfl|(simp [errW_none,errW_some]<;>rfl)|(simp [*,errW_none,errW_some]<;>rfl),by repeat (first|(with_reducible first|exact HB.out|apply below_alloc|apply pw_below_drewN|apply below_drew1|refine below_set ?_ GE262.out)|exact HB.out)⟩
           ·rw [if_neg c68] at H
            exact absurd H (by simp)
          ·rw [if_neg c67] at H
           exact absurd H (by simp)
         ·rw [if_neg c66] at H
          have c66b0:decide (x91_3<(x4_2.length:Int))=false:=decide_eq_false c66
          clear c66
          obtain rfl:=Option.some.inj H
          go_wp2
          go_ret
          exact ⟨by first|rfl|(simp [errW_none,errW_some]<;>rfl)|(simp [*,errW_none,errW_some]<;>rfl),by repeat (first|(with_reducible first|exact HB.out|apply below_alloc|apply pw_below_drewN|apply below_drew1|refine below_set ?_ GE262.out)|exact HB.out)⟩
end Go.Proofs.YtjojmfhgfeflnaaGreatDoor.QFnExactInner
