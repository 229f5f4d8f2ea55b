import Derived.Test.YtbogfagafdokeaaQFnExactRangeTextx15
import Derived.Test.YtbogfagafdokeaaVal
namespace Go.Proofs.Ytbogfagafdokeaa.QFnExactRangeText
open Go.Proofs.Ytbogfagafdokeaa.MapObj
open Go.RowKit Go.Proofs.YtbogfagafdokeaaV.PrintWords Go.Proofs.YtbogfagafdokeaaV.PrintLast Go.Proofs.YtbogfagafdokeaaV.PrintMore Go.Proofs.Ytbogfagafdokeaa.Val
set_option linter.unusedVariables false
set_option linter.unusedSimpArgs false
noncomputable def laws_szAttrS.L0 (x0:List (S98)) (x1:Int) (x5:Int):Option (Int):=val (fun k=>laws_szAttrS.l0 k x0 x1 x5)
noncomputable def laws_szAttrS.F (l0:List (S98)) (a1:Int):Option (Int):=val (fun k=>laws_szAttrS.f k l0 a1)
noncomputable def laws_szNode.F (a0_0:Int) (a0_1:Int) (a0_2:ByteArray) (l0_3:List (S98)) (a0_4:ByteArray) (a0_5:Int) (a1:Int):Option (Int):=val (fun k=>laws_szNode.f k a0_0 a0_1 a0_2 l0_3 a0_4 a0_5 a1)
noncomputable def laws_szNodeS.L0 (x0:List (S64)) (x1:Int) (x5:Int):Option (Int):=val (fun k=>laws_szNodeS.l0 k x0 x1 x5)
noncomputable def laws_szNodeS.F (l0:List (S64)) (a1:Int):Option (Int):=val (fun k=>laws_szNodeS.f k l0 a1)
noncomputable def laws_szTree.F (l0_0:List (S64)) (a1:Int):Option (Int):=val (fun k=>laws_szTree.f k l0_0 a1)
noncomputable def laws_toAttrS.L0 (x0:List (S98)) (x3:List (S99)) (x4:Int):Option ((List (S99))):=val (fun k=>laws_toAttrS.l0 k x0 x3 x4)
noncomputable def laws_toAttrS.F (l0:List (S98)):Option ((List (S99))):=val (fun k=>laws_toAttrS.f k l0)
noncomputable def laws_toNode.F (a0_0:Int) (a0_1:Int) (a0_2:ByteArray) (l0_3:List (S98)) (a0_4:ByteArray) (a0_5:Int):Option (Int×Int×ByteArray×(List (S99))×ByteArray×Int):=val (fun k=>laws_toNode.f k a0_0 a0_1 a0_2 l0_3 a0_4 a0_5)
noncomputable def laws_toNodeS.L0 (x0:List (S64)) (x3:List (S59)) (x4:Int):Option ((List (S59))):=val (fun k=>laws_toNodeS.l0 k x0 x3 x4)
noncomputable def laws_toNodeS.F (l0:List (S64)):Option ((List (S59))):=val (fun k=>laws_toNodeS.f k l0)
noncomputable def laws_toTree.F (l0_0:List (S64)):Option ((List (S59))):=val (fun k=>laws_toTree.f k l0_0)
noncomputable def laws_eqAttrS.L0 (x0:List (S99)) (x1:List (S99)) (x5:Int):Option (Bool):=val (fun k=>laws_eqAttrS.l0 k x0 x1 x5)
noncomputable def laws_eqAttrS.F (l0:List (S99)) (l1:List (S99)):Option (Bool):=val (fun k=>laws_eqAttrS.f k l0 l1)
noncomputable def laws_eqNode.F (a0_0:Int) (a0_1:Int) (a0_2:ByteArray) (l0_3:List (S99)) (a0_4:ByteArray) (a0_5:Int) (a1_0:Int) (a1_1:Int) (a1_2:ByteArray) (l1_3:List (S99)) (a1_4:ByteArray) (a1_5:Int):Option (Bool):=val (fun k=>laws_eqNode.f k a0_0 a0_1 a0_2 l0_3 a0_4 a0_5 a1_0 a1_1 a1_2 l1_3 a1_4 a1_5)
noncomputable def laws_eqNodeS.L0 (x0:List (S59)) (x1:List (S59)) (x5:Int):Option (Bool):=val (fun k=>laws_eqNodeS.l0 k x0 x1 x5)
noncomputable def laws_eqNodeS.F (l0:List (S59)) (l1:List (S59)):Option (Bool):=val (fun k=>laws_eqNodeS.f k l0 l1)
noncomputable def laws_eqTree.F (l0_0:List (S59)) (l1_0:List (S59)):Option (Bool):=val (fun k=>laws_eqTree.f k l0_0 l1_0)
noncomputable def spec_l3Skip.L0 (x0:List (S59)) (x1:Int) (x5:Int):Option (Int):=val (fun k=>spec_l3Skip.l0 k x0 x1 x5)
noncomputable def spec_l3Skip.F (l0:List (S59)) (a1:Int):Option (Int):=val (fun k=>spec_l3Skip.f k l0 a1)
noncomputable def spec_l2Has.L0 (x0:List (S99)) (x1:ByteArray) (x5:Int):Option (Bool):=val (fun k=>spec_l2Has.l0 k x0 x1 x5)
noncomputable def spec_l2Has.F (l0:List (S99)) (a1:ByteArray):Option (Bool):=val (fun k=>spec_l2Has.f k l0 a1)
noncomputable def spec_l3NodeOk.J0 (x20:Bool) (x164000:Int) (x164001:Int) (x164002:ByteArray) (x164003:List (S99)) (x164004:ByteArray) (x164005:Int):Option (Bool):=val (fun k=>spec_l3NodeOk.j0 k x20 x164000 x164001 x164002 x164003 x164004 x164005)
noncomputable def spec_l3NodeOk.L0 (x5:Int) (x164000:Int) (x164001:Int) (x164002:ByteArray) (x164003:List (S99)) (x164004:ByteArray) (x164005:Int):Option (Bool):=val (fun k=>spec_l3NodeOk.l0 k x5 x164000 x164001 x164002 x164003 x164004 x164005)
noncomputable def spec_l3NodeOk.F (a0_0:Int) (a0_1:Int) (a0_2:ByteArray) (l0_3:List (S99)) (a0_4:ByteArray) (a0_5:Int) (a1:Bool):Option (Bool):=val (fun k=>spec_l3NodeOk.f k a0_0 a0_1 a0_2 l0_3 a0_4 a0_5 a1)
noncomputable def spec_TreeOk.J0 (x3:Int) (x22:Bool) (x172000:List (S59)):Option (Bool):=val (fun k=>spec_TreeOk.j0 k x3 x22 x172000)
noncomputable def spec_TreeOk.L0 (x3:Int) (x4:List Int) (x5:Int) (x172000:List (S59)):Option (Bool):=val (fun k=>spec_TreeOk.l0 k x3 x4 x5 x172000)
noncomputable def spec_TreeOk.J2 (x3:Int) (x4:List Int) (x5:Int) (x42:Bool) (x172000:List (S59)):Option (Bool):=val (fun k=>spec_TreeOk.j2 k x3 x4 x5 x42 x172000)
noncomputable def spec_TreeOk.L1 (x3:Int) (x4:List Int) (x5:Int) (x6:Int) (x172000:List (S59)):Option (Bool):=val (fun k=>spec_TreeOk.l1 k x3 x4 x5 x6 x172000)
noncomputable def spec_TreeOk.J4 (x3:Int) (x4:List Int) (x5:Int) (x172000:List (S59)):Option (Bool):=val (fun k=>spec_TreeOk.j4 k x3 x4 x5 x172000)
noncomputable def spec_TreeOk.L2 (x3:Int) (x4:List Int) (x5:Int) (x172000:List (S59)):Option (Bool):=val (fun k=>spec_TreeOk.l2 k x3 x4 x5 x172000)
noncomputable def spec_TreeOk.F (l0_0:List (S59)):Option (Bool):=val (fun k=>spec_TreeOk.f k l0_0)
noncomputable def spec_l4At.L0 (x1:Int) (x5:Int) (x191000:List (S59)):Option (Int):=val (fun k=>spec_l4At.l0 k x1 x5 x191000)
noncomputable def spec_l4At.F (l0_0:List (S59)) (a1:Int):Option (Int):=val (fun k=>spec_l4At.f k l0_0 a1)
noncomputable def spec_SpotOk.F (l0_0:List (S59)) (a1_0:Int) (a1_1:Int):Option (Bool):=val (fun k=>spec_SpotOk.f k l0_0 a1_0 a1_1)
noncomputable def spec_l4Parents.L0 (x0:List (S59)) (x3:List Int) (x4:List Int) (x5:List Int) (x6:Int):Option (List Int):=val (fun k=>spec_l4Parents.l0 k x0 x3 x4 x5 x6)
noncomputable def spec_l4Parents.J1 (x0:List (S59)) (x3:List Int) (x4:List Int) (x5:List Int) (x6:Int):Option (List Int):=val (fun k=>spec_l4Parents.j1 k x0 x3 x4 x5 x6)
noncomputable def spec_l4Parents.L1 (x0:List (S59)) (x3:List Int) (x4:List Int) (x5:List Int) (x6:Int):Option (List Int):=val (fun k=>spec_l4Parents.l1 k x0 x3 x4 x5 x6)
noncomputable def spec_l4Parents.F (l0:List (S59)):Option (List Int):=val (fun k=>spec_l4Parents.f k l0)
noncomputable def spec_l4KidsOf.L0 (x0:List (S59)) (x1:Int) (x5:List Int) (x6:Int) (x7:Int):Option (List Int):=val (fun k=>spec_l4KidsOf.l0 k x0 x1 x5 x6 x7)
noncomputable def spec_l4KidsOf.F (l0:List (S59)) (a1:Int):Option (List Int):=val (fun k=>spec_l4KidsOf.f k l0 a1)
noncomputable def spec_l3Find.L0 (x0:List Int) (x1:Int) (x5:Int):Option (Int):=val (fun k=>spec_l3Find.l0 k x0 x1 x5)
noncomputable def spec_l3Find.F (l0:List Int) (a1:Int):Option (Int):=val (fun k=>spec_l3Find.f k l0 a1)
noncomputable def spec_l5Number.F (l0:List (S59)) (a1:Int) (a2:Int):Option (Int):=val (fun k=>spec_l5Number.f k l0 a1 a2)
noncomputable def spec_l5Path.L0 (x5:List Int) (x6:Int) (x7:List Int) (x241000:List (S59)):Option (List Int):=val (fun k=>spec_l5Path.l0 k x5 x6 x7 x241000)
noncomputable def spec_l5Path.F (l0_0:List (S59)) (a1_0:Int) (a1_1:Int):Option (List Int):=val (fun k=>spec_l5Path.f k l0_0 a1_0 a1_1)
noncomputable def spec_l5Less.L0 (x7:List Int) (x8:List Int) (x9:Int):Option (Bool):=val (fun k=>spec_l5Less.l0 k x7 x8 x9)
noncomputable def spec_l5Less.J1 (x7:List Int) (x8:List Int) (x9:Int) (x27:Bool):Option (Bool):=val (fun k=>spec_l5Less.j1 k x7 x8 x9 x27)
noncomputable def spec_l5Less.J2 (x7:List Int) (x8:List Int) (x9:Int) (x10:Bool) (x11:Bool) (x43:Bool):Option (Bool):=val (fun k=>spec_l5Less.j2 k x7 x8 x9 x10 x11 x43)
noncomputable def spec_l5Less.F (l0_0:List (S59)) (a1_0:Int) (a1_1:Int) (a2_0:Int) (a2_1:Int):Option (Bool):=val (fun k=>spec_l5Less.f k l0_0 a1_0 a1_1 a2_0 a2_1)
noncomputable def spec_l5RangeOk.F (l0_0:List (S59)) (a1_0:Int) (a1_1:Int) (a1_2:Int) (a1_3:Int):Option (Bool):=val (fun k=>spec_l5RangeOk.f k l0_0 a1_0 a1_1 a1_2 a1_3)
noncomputable def spec_l5Place.L0 (x0:List (S59)) (x2:Int) (x7:Int):Option (Int):=val (fun k=>spec_l5Place.l0 k x0 x2 x7)
noncomputable def spec_l5Place.F (l0:List (S59)) (a1:Int) (a2:Int):Option (Int):=val (fun k=>spec_l5Place.f k l0 a1 a2)
noncomputable def spec_l5Edge.F (l0_0:List (S59)) (a1_0:Int) (a1_1:Int):Option (Int×Int):=val (fun k=>spec_l5Edge.f k l0_0 a1_0 a1_1)
noncomputable def spec_RangeText.L0 (x5:List Int) (x6:Int) (x7:Int) (x8:Int) (x9:Int) (x10:Int) (x288000:List (S59)):Option (ByteArray):=val (fun k=>spec_RangeText.l0 k x5 x6 x7 x8 x9 x10 x288000)
noncomputable def spec_RangeText.J1 (x5:List Int) (x6:Int) (x7:Int) (x8:Int) (x9:Int) (x10:Int) (x42:Bool) (x288000:List (S59)):Option (ByteArray):=val (fun k=>spec_RangeText.j1 k x5 x6 x7 x8 x9 x10 x42 x288000)
noncomputable def spec_RangeText.J2 (x5:List Int) (x6:Int) (x7:Int) (x8:Int) (x9:Int) (x10:Int) (x60:Bool) (x288000:List (S59)):Option (ByteArray):=val (fun k=>spec_RangeText.j2 k x5 x6 x7 x8 x9 x10 x60 x288000)
noncomputable def spec_RangeText.J3 (x5:List Int) (x6:Int) (x7:Int) (x8:Int) (x9:Int) (x10:Int) (x11:Int) (x12:Int) (x74:Bool) (x288000:List (S59)):Option (ByteArray):=val (fun k=>spec_RangeText.j3 k x5 x6 x7 x8 x9 x10 x11 x12 x74 x288000)
noncomputable def spec_RangeText.J4 (x5:List Int) (x6:Int) (x7:Int) (x8:Int) (x9:Int) (x10:Int) (x11:Int) (x12:Int) (x288000:List (S59)):Option (ByteArray):=val (fun k=>spec_RangeText.j4 k x5 x6 x7 x8 x9 x10 x11 x12 x288000)
noncomputable def spec_RangeText.F (l0_0:List (S59)) (a1_0:Int) (a1_1:Int) (a1_2:Int) (a1_3:Int):Option (ByteArray):=val (fun k=>spec_RangeText.f k l0_0 a1_0 a1_1 a1_2 a1_3)
noncomputable def impl_attrsRight.L0 (x3:List ByteArray) (x7:List (S99)) (x8:Int) (x9:Int):Option (Bool):=val (fun k=>impl_attrsRight.l0 k x3 x7 x8 x9)
noncomputable def impl_attrsRight.F (l0:List (S99)):Option (Bool):=val (fun k=>impl_attrsRight.f k l0)
noncomputable def impl_nodeRight.J0 (x24:Bool) (x320000:Int) (x320001:Int) (x320002:ByteArray) (x320003:List (S99)) (x320004:ByteArray) (x320005:Int):Option (Bool):=val (fun k=>impl_nodeRight.j0 k x24 x320000 x320001 x320002 x320003 x320004 x320005)
noncomputable def impl_nodeRight.F (a0_0:Int) (a0_1:Int) (a0_2:ByteArray) (l0_3:List (S99)) (a0_4:ByteArray) (a0_5:Int) (a1:Bool):Option (Bool):=val (fun k=>impl_nodeRight.f k a0_0 a0_1 a0_2 l0_3 a0_4 a0_5 a1)
noncomputable def impl_TreeOk.J0 (x18:Bool) (x322000:List (S59)):Option (Bool):=val (fun k=>impl_TreeOk.j0 k x18 x322000)
noncomputable def impl_TreeOk.L0 (x3:List Int) (x4:List Int) (x22:List (S59)) (x23:Int) (x24:Int):Option (Bool):=val (fun k=>impl_TreeOk.l0 k x3 x4 x22 x23 x24)
noncomputable def impl_TreeOk.J2 (x3:List Int) (x4:List Int) (x5:Int) (x22:List (S59)) (x23:Int) (x24:Int) (x39:Bool) (x327000:Int) (x327001:Int) (x327002:ByteArray) (x327003:List (S99)) (x327004:ByteArray) (x327005:Int):Option (Bool):=val (fun k=>impl_TreeOk.j2 k x3 x4 x5 x22 x23 x24 x39 x327000 x327001 x327002 x327003 x327004 x327005)
noncomputable def impl_TreeOk.J4 (x3:List Int) (x4:List Int) (x5:Int) (x22:List (S59)) (x23:Int) (x24:Int) (x327000:Int) (x327001:Int) (x327002:ByteArray) (x327003:List (S99)) (x327004:ByteArray) (x327005:Int):Option (Bool):=val (fun k=>impl_TreeOk.j4 k x3 x4 x5 x22 x23 x24 x327000 x327001 x327002 x327003 x327004 x327005)
noncomputable def impl_TreeOk.J5 (x3:List Int) (x4:List Int) (x22:List (S59)) (x23:Int) (x24:Int) (x71:Bool) (x327000:Int) (x327001:Int) (x327002:ByteArray) (x327003:List (S99)) (x327004:ByteArray) (x327005:Int):Option (Bool):=val (fun k=>impl_TreeOk.j5 k x3 x4 x22 x23 x24 x71 x327000 x327001 x327002 x327003 x327004 x327005)
noncomputable def impl_TreeOk.L1 (x3:List Int) (x4:List Int) (x5:Int) (x22:List (S59)) (x23:Int) (x24:Int) (x327000:Int) (x327001:Int) (x327002:ByteArray) (x327003:List (S99)) (x327004:ByteArray) (x327005:Int):Option (Bool):=val (fun k=>impl_TreeOk.l1 k x3 x4 x5 x22 x23 x24 x327000 x327001 x327002 x327003 x327004 x327005)
noncomputable def impl_TreeOk.L2 (x89:List Int) (x90:Int) (x91:Int):Option (Bool):=val (fun k=>impl_TreeOk.l2 k x89 x90 x91)
noncomputable def impl_TreeOk.F (l0_0:List (S59)):Option (Bool):=val (fun k=>impl_TreeOk.f k l0_0)
noncomputable def impl_RangeText.F (l0_0:List (S59)) (a0:Int) (a1:Int) (b0:Int) (b1:Int):Option (ByteArray):=val (fun k=>impl_RangeText.f k l0_0 a0 a1 b0 b1)
noncomputable def laws_FnExactRangeText.F (l0_0:List (S64)) (a1_0:Int) (a1_1:Int) (a1_2:Int) (a1_3:Int):Option (Bool):=val (fun k=>laws_FnExactRangeText.f k l0_0 a1_0 a1_1 a1_2 a1_3)
theorem val_m_laws_szAttrS_l0 (y0:List (S98)) (y1:Int) (y2:Int) (k:Nat):LeO (laws_szAttrS.l0 k y0 y1 y2) (laws_szAttrS.l0 (k+1) y0 y1 y2):=((laws_szAttrS.mono_l k)) y0 y1 y2
theorem laws_szAttrS.L0_eq (x0:List (S98)) (x1:Int) (x5:Int):laws_szAttrS.L0 x0 x1 x5=if x5<(x0.length:Int) then (if 0≤x5 then ((laws_szAttr.f ((rd_T98 x0 x5).f0) ((rd_T98 x0 x5).f1) x1).bind fun t103=>(if t103<0 then (some (-1)) else (laws_szAttrS.L0 x0 t103 (wrap64 (x5+1))))) else (none)) else (some x1):=by
 unfold laws_szAttrS.L0
 rw [← val_shift]
 simp only [laws_szAttrS.l0]
 try simp only [val_ite,val_const,val_bind,LeO_self,val_m_laws_szAttrS_l0,forall_const]
 try rfl
theorem laws_szAttrS.F_eq (l0:List (S98)) (a1:Int):laws_szAttrS.F l0 a1=if (wrap64 (a1 - (l0.length:Int)))<0 then (some (-1)) else (laws_szAttrS.L0 l0 (wrap64 (a1 - (l0.length:Int))) 0):=by
 unfold laws_szAttrS.F
 simp only [laws_szAttrS.f]
 try simp only [val_ite,val_const,val_bind,LeO_self,val_m_laws_szAttrS_l0,forall_const]
 try rfl
theorem laws_szNode.F_eq (a0_0:Int) (a0_1:Int) (a0_2:ByteArray) (l0_3:List (S98)) (a0_4:ByteArray) (a0_5:Int) (a1:Int):laws_szNode.F a0_0 a0_1 a0_2 l0_3 a0_4 a0_5 a1=if (wrap64 (a1 - (a0_2.size:Int)))<0 then (some (-1)) else ((laws_szAttrS.F l0_3 (wrap64 (a1 - (a0_2.size:Int)))).bind fun t105=>(if t105<0 then (some (-1)) else (if (wrap64 (t105 - (a0_4.size:Int)))<0 then (some (-1)) else (some (wrap64 (t105 - (a0_4.size:Int))))))):=by
 unfold laws_szNode.F
 simp only [laws_szNode.f]
 try simp only [val_ite,val_const,val_bind,LeO_self,laws_szAttrS.mono,forall_const]
 try rfl
theorem val_m_laws_szNodeS_l0 (y0:List (S64)) (y1:Int) (y2:Int) (k:Nat):LeO (laws_szNodeS.l0 k y0 y1 y2) (laws_szNodeS.l0 (k+1) y0 y1 y2):=((laws_szNodeS.mono_l k)) y0 y1 y2
theorem laws_szNodeS.L0_eq (x0:List (S64)) (x1:Int) (x5:Int):laws_szNodeS.L0 x0 x1 x5=if x5<(x0.length:Int) then (if 0≤x5 then ((laws_szNode.F ((rd_T64 x0 x5).f0) ((rd_T64 x0 x5).f1) ((rd_T64 x0 x5).f2) ((rd_T64 x0 x5).f3) ((rd_T64 x0 x5).f4) ((rd_T64 x0 x5).f5) x1).bind fun t107=>(if t107<0 then (some (-1)) else (laws_szNodeS.L0 x0 t107 (wrap64 (x5+1))))) else (none)) else (some x1):=by
 unfold laws_szNodeS.L0
 rw [← val_shift]
 simp only [laws_szNodeS.l0]
 try simp only [val_ite,val_const,val_bind,LeO_self,laws_szNode.mono,val_m_laws_szNodeS_l0,forall_const]
 try rfl
theorem laws_szNodeS.F_eq (l0:List (S64)) (a1:Int):laws_szNodeS.F l0 a1=if (wrap64 (a1 - (l0.length:Int)))<0 then (some (-1)) else (laws_szNodeS.L0 l0 (wrap64 (a1 - (l0.length:Int))) 0):=by
 unfold laws_szNodeS.F
 simp only [laws_szNodeS.f]
 try simp only [val_ite,val_const,val_bind,LeO_self,val_m_laws_szNodeS_l0,forall_const]
 try rfl
theorem laws_szTree.F_eq (l0_0:List (S64)) (a1:Int):laws_szTree.F l0_0 a1=(laws_szNodeS.F l0_0 a1).bind fun t109=>(if t109<0 then (some (-1)) else (some t109)):=by
 unfold laws_szTree.F
 simp only [laws_szTree.f]
 try simp only [val_ite,val_const,val_bind,LeO_self,laws_szNodeS.mono,forall_const]
 try rfl
theorem val_m_laws_toAttrS_l0 (y0:List (S98)) (y1:List (S99)) (y2:Int) (k:Nat):LeO (laws_toAttrS.l0 k y0 y1 y2) (laws_toAttrS.l0 (k+1) y0 y1 y2):=((laws_toAttrS.mono_l k)) y0 y1 y2
theorem laws_toAttrS.L0_eq (x0:List (S98)) (x3:List (S99)) (x4:Int):laws_toAttrS.L0 x0 x3 x4=if x4<(x0.length:Int) then (if 0≤x4 then ((laws_toAttr.f ((rd_T98 x0 x4).f0) ((rd_T98 x0 x4).f1)).bind fun bt117=>(if x4<(x3.length:Int) then (laws_toAttrS.L0 x0 (x3.set (x4:Int).toNat (⟨bt117.1,bt117.2⟩:S99)) (wrap64 (x4+1))) else (none))) else (none)) else (some x3):=by
 unfold laws_toAttrS.L0
 rw [← val_shift]
 simp only [laws_toAttrS.l0]
 try simp only [val_ite,val_const,val_bind,LeO_self,val_m_laws_toAttrS_l0,forall_const]
 try rfl
theorem laws_toAttrS.F_eq (l0:List (S98)):laws_toAttrS.F l0=if 0≤(l0.length:Int) then (if ((l0.length:Int):Int).toNat≤8796093022208 then (laws_toAttrS.L0 l0 (List.replicate ((l0.length:Int):Int).toNat z99) 0) else (none)) else (none):=by
 unfold laws_toAttrS.F
 simp only [laws_toAttrS.f]
 try simp only [val_ite,val_const,val_bind,LeO_self,val_m_laws_toAttrS_l0,forall_const]
 try rfl
theorem laws_toNode.F_eq (a0_0:Int) (a0_1:Int) (a0_2:ByteArray) (l0_3:List (S98)) (a0_4:ByteArray) (a0_5:Int):laws_toNode.F a0_0 a0_1 a0_2 l0_3 a0_4 a0_5=(laws_toAttrS.F l0_3).bind fun t123=>(some (a0_0,a0_1,a0_2,t123,a0_4,a0_5)):=by
 unfold laws_toNode.F
 simp only [laws_toNode.f]
 try simp only [val_ite,val_const,val_bind,LeO_self,laws_toAttrS.mono,forall_const]
 try rfl
theorem val_m_laws_toNodeS_l0 (y0:List (S64)) (y1:List (S59)) (y2:Int) (k:Nat):LeO (laws_toNodeS.l0 k y0 y1 y2) (laws_toNodeS.l0 (k+1) y0 y1 y2):=((laws_toNodeS.mono_l k)) y0 y1 y2
theorem laws_toNodeS.L0_eq (x0:List (S64)) (x3:List (S59)) (x4:Int):laws_toNodeS.L0 x0 x3 x4=if x4<(x0.length:Int) then (if 0≤x4 then ((laws_toNode.F ((rd_T64 x0 x4).f0) ((rd_T64 x0 x4).f1) ((rd_T64 x0 x4).f2) ((rd_T64 x0 x4).f3) ((rd_T64 x0 x4).f4) ((rd_T64 x0 x4).f5)).bind fun bt130=>(if x4<(x3.length:Int) then (laws_toNodeS.L0 x0 (x3.set (x4:Int).toNat (⟨bt130.1,bt130.2.1,bt130.2.2.1,bt130.2.2.2.1,bt130.2.2.2.2.1,bt130.2.2.2.2.2⟩:S59)) (wrap64 (x4+1))) else (none))) else (none)) else (some x3):=by
 unfold laws_toNodeS.L0
 rw [← val_shift]
 simp only [laws_toNodeS.l0]
 try simp only [val_ite,val_const,val_bind,LeO_self,laws_toNode.mono,val_m_laws_toNodeS_l0,forall_const]
 try rfl
theorem laws_toNodeS.F_eq (l0:List (S64)):laws_toNodeS.F l0=if 0≤(l0.length:Int) then (if ((l0.length:Int):Int).toNat≤3518437208883 then (laws_toNodeS.L0 l0 (List.replicate ((l0.length:Int):Int).toNat z59) 0) else (none)) else (none):=by
 unfold laws_toNodeS.F
 simp only [laws_toNodeS.f]
 try simp only [val_ite,val_const,val_bind,LeO_self,val_m_laws_toNodeS_l0,forall_const]
 try rfl
theorem laws_toTree.F_eq (l0_0:List (S64)):laws_toTree.F l0_0=(laws_toNodeS.F l0_0).bind fun t142=>(some t142):=by
 unfold laws_toTree.F
 simp only [laws_toTree.f]
 try simp only [val_ite,val_const,val_bind,LeO_self,laws_toNodeS.mono,forall_const]
 try rfl
theorem val_m_laws_eqAttrS_l0 (y0:List (S99)) (y1:List (S99)) (y2:Int) (k:Nat):LeO (laws_eqAttrS.l0 k y0 y1 y2) (laws_eqAttrS.l0 (k+1) y0 y1 y2):=((laws_eqAttrS.mono_l k)) y0 y1 y2
theorem laws_eqAttrS.L0_eq (x0:List (S99)) (x1:List (S99)) (x5:Int):laws_eqAttrS.L0 x0 x1 x5=if x5<(x0.length:Int) then (if 0≤x5 then (if x5<(x1.length:Int) then ((laws_eqAttr.f ((rd_T99 x0 x5).f0) ((rd_T99 x0 x5).f1) ((rd_T99 x1 x5).f0) ((rd_T99 x1 x5).f1)).bind fun t149=>(if t149=true then (laws_eqAttrS.L0 x0 x1 (wrap64 (x5+1))) else (none))) else (none)) else (none)) else (some true):=by
 unfold laws_eqAttrS.L0
 rw [← val_shift]
 simp only [laws_eqAttrS.l0]
 try simp only [val_ite,val_const,val_bind,LeO_self,val_m_laws_eqAttrS_l0,forall_const]
 try rfl
theorem laws_eqAttrS.F_eq (l0:List (S99)) (l1:List (S99)):laws_eqAttrS.F l0 l1=if (l0.length:Int)=(l1.length:Int) then (laws_eqAttrS.L0 l0 l1 0) else (none):=by
 unfold laws_eqAttrS.F
 simp only [laws_eqAttrS.f]
 try simp only [val_ite,val_const,val_bind,LeO_self,val_m_laws_eqAttrS_l0,forall_const]
 try rfl
theorem laws_eqNode.F_eq (a0_0:Int) (a0_1:Int) (a0_2:ByteArray) (l0_3:List (S99)) (a0_4:ByteArray) (a0_5:Int) (a1_0:Int) (a1_1:Int) (a1_2:ByteArray) (l1_3:List (S99)) (a1_4:ByteArray) (a1_5:Int):laws_eqNode.F a0_0 a0_1 a0_2 l0_3 a0_4 a0_5 a1_0 a1_1 a1_2 l1_3 a1_4 a1_5=if a0_0=a1_0 then (if a0_1=a1_1 then (if a0_2.toList=a1_2.toList then ((laws_eqAttrS.F l0_3 l1_3).bind fun t152=>(if t152=true then (if a0_4.toList=a1_4.toList then (if a0_5=a1_5 then (some true) else (none)) else (none)) else (none))) else (none)) else (none)) else (none):=by
 unfold laws_eqNode.F
 simp only [laws_eqNode.f]
 try simp only [val_ite,val_const,val_bind,LeO_self,laws_eqAttrS.mono,forall_const]
 try rfl
theorem val_m_laws_eqNodeS_l0 (y0:List (S59)) (y1:List (S59)) (y2:Int) (k:Nat):LeO (laws_eqNodeS.l0 k y0 y1 y2) (laws_eqNodeS.l0 (k+1) y0 y1 y2):=((laws_eqNodeS.mono_l k)) y0 y1 y2
theorem laws_eqNodeS.L0_eq (x0:List (S59)) (x1:List (S59)) (x5:Int):laws_eqNodeS.L0 x0 x1 x5=if x5<(x0.length:Int) then (if 0≤x5 then (if x5<(x1.length:Int) then ((laws_eqNode.F ((rd_T59 x0 x5).f0) ((rd_T59 x0 x5).f1) ((rd_T59 x0 x5).f2) ((rd_T59 x0 x5).f3) ((rd_T59 x0 x5).f4) ((rd_T59 x0 x5).f5) ((rd_T59 x1 x5).f0) ((rd_T59 x1 x5).f1) ((rd_T59 x1 x5).f2) ((rd_T59 x1 x5).f3) ((rd_T59 x1 x5).f4) ((rd_T59 x1 x5).f5)).bind fun t155=>(if t155=true then (laws_eqNodeS.L0 x0 x1 (wrap64 (x5+1))) else (none))) else (none)) else (none)) else (some true):=by
 unfold laws_eqNodeS.L0
 rw [← val_shift]
 simp only [laws_eqNodeS.l0]
 try simp only [val_ite,val_const,val_bind,LeO_self,laws_eqNode.mono,val_m_laws_eqNodeS_l0,forall_const]
 try rfl
theorem laws_eqNodeS.F_eq (l0:List (S59)) (l1:List (S59)):laws_eqNodeS.F l0 l1=if (l0.length:Int)=(l1.length:Int) then (laws_eqNodeS.L0 l0 l1 0) else (none):=by
 unfold laws_eqNodeS.F
 simp only [laws_eqNodeS.f]
 try simp only [val_ite,val_const,val_bind,LeO_self,val_m_laws_eqNodeS_l0,forall_const]
 try rfl
theorem laws_eqTree.F_eq (l0_0:List (S59)) (l1_0:List (S59)):laws_eqTree.F l0_0 l1_0=(laws_eqNodeS.F l0_0 l1_0).bind fun t158=>(if t158=true then (some true) else (none)):=by
 unfold laws_eqTree.F
 simp only [laws_eqTree.f]
 try simp only [val_ite,val_const,val_bind,LeO_self,laws_eqNodeS.mono,forall_const]
 try rfl
theorem val_m_spec_l3Skip_l0 (y0:List (S59)) (y1:Int) (y2:Int) (k:Nat):LeO (spec_l3Skip.l0 k y0 y1 y2) (spec_l3Skip.l0 (k+1) y0 y1 y2):=((spec_l3Skip.mono_l k)) y0 y1 y2
theorem spec_l3Skip.L0_eq (x0:List (S59)) (x1:Int) (x5:Int):spec_l3Skip.L0 x0 x1 x5=if x5 > 0 then (if x1≥(x0.length:Int) then (some (-1)) else (if 0≤x1 then (if x1<(x0.length:Int) then (if ((rd_T59 x0 x1).f5)<0 then (some (-1)) else (if ((rd_T59 x0 x1).f5) > (x0.length:Int) then (some (-1)) else (spec_l3Skip.L0 x0 (wrap64 (x1+1)) (wrap64 (x5+(wrap64 (((rd_T59 x0 x1).f5) - 1))))))) else (none)) else (none))) else (some x1):=by
 unfold spec_l3Skip.L0
 rw [← val_shift]
 simp only [spec_l3Skip.l0]
 try simp only [val_ite,val_const,val_bind,LeO_self,val_m_spec_l3Skip_l0,forall_const]
 try rfl
theorem spec_l3Skip.F_eq (l0:List (S59)) (a1:Int):spec_l3Skip.F l0 a1=spec_l3Skip.L0 l0 a1 1:=by
 unfold spec_l3Skip.F
 simp only [spec_l3Skip.f]
 try simp only [val_ite,val_const,val_bind,LeO_self,val_m_spec_l3Skip_l0,forall_const]
 try rfl
theorem val_m_spec_l2Has_l0 (y0:List (S99)) (y1:ByteArray) (y2:Int) (k:Nat):LeO (spec_l2Has.l0 k y0 y1 y2) (spec_l2Has.l0 (k+1) y0 y1 y2):=((spec_l2Has.mono_l k)) y0 y1 y2
theorem spec_l2Has.L0_eq (x0:List (S99)) (x1:ByteArray) (x5:Int):spec_l2Has.L0 x0 x1 x5=if x5<(x0.length:Int) then (if 0≤x5 then (if ((rd_T99 x0 x5).f0).toList=x1.toList then (some true) else (spec_l2Has.L0 x0 x1 (wrap64 (x5+1)))) else (none)) else (some false):=by
 unfold spec_l2Has.L0
 rw [← val_shift]
 simp only [spec_l2Has.l0]
 try simp only [val_ite,val_const,val_bind,LeO_self,val_m_spec_l2Has_l0,forall_const]
 try rfl
theorem spec_l2Has.F_eq (l0:List (S99)) (a1:ByteArray):spec_l2Has.F l0 a1=spec_l2Has.L0 l0 a1 0:=by
 unfold spec_l2Has.F
 simp only [spec_l2Has.f]
 try simp only [val_ite,val_const,val_bind,LeO_self,val_m_spec_l2Has_l0,forall_const]
 try rfl
theorem val_m_spec_l3NodeOk_l0 (y0:Int) (y1:Int) (y2:Int) (y3:ByteArray) (y4:List (S99)) (y5:ByteArray) (y6:Int) (k:Nat):LeO (spec_l3NodeOk.l0 k y0 y1 y2 y3 y4 y5 y6) (spec_l3NodeOk.l0 (k+1) y0 y1 y2 y3 y4 y5 y6):=((spec_l3NodeOk.mono_l k).2) y0 y1 y2 y3 y4 y5 y6
theorem spec_l3NodeOk.J0_eq (x20:Bool) (x164000:Int) (x164001:Int) (x164002:ByteArray) (x164003:List (S99)) (x164004:ByteArray) (x164005:Int):spec_l3NodeOk.J0 x20 x164000 x164001 x164002 x164003 x164004 x164005=if x20=true then (some false) else (if x164001=1 then (if x164002.toList=([]:List UInt8) then (if x164004.toList=([]:List UInt8) then (some ((x164003.length:Int)==0)) else (some false)) else (some false)) else (if x164001=2 then (spec_l3NodeOk.L0 0 x164000 x164001 x164002 x164003 x164004 x164005) else (if x164001=3 then (if x164002.toList=([]:List UInt8) then (if x164004.toList=([]:List UInt8) then (some false) else (if (x164003.length:Int)=0 then (some (x164005==0)) else (some false))) else (some false)) else (if x164001=4 then (if x164002.toList=([]:List UInt8) then (if (x164003.length:Int)=0 then (some (x164005==0)) else (some false)) else (some false)) else (if x164001=5 then (if x164004.toList=([]:List UInt8) then (if (x164003.length:Int)=0 then (some (x164005==0)) else (some false)) else (some false)) else (some false)))))):=by
 unfold spec_l3NodeOk.J0
 rw [← val_shift]
 simp only [spec_l3NodeOk.j0]
 try simp only [val_ite,val_const,val_bind,LeO_self,val_m_spec_l3NodeOk_l0,forall_const]
 try rfl
theorem spec_l3NodeOk.L0_eq (x5:Int) (x164000:Int) (x164001:Int) (x164002:ByteArray) (x164003:List (S99)) (x164004:ByteArray) (x164005:Int):spec_l3NodeOk.L0 x5 x164000 x164001 x164002 x164003 x164004 x164005=if x5<(x164003.length:Int) then (if 0≤x5 then (if ((rd_T99 x164003 x5).f0).toList=([]:List UInt8) then (some false) else (if x5≤(x164003.length:Int) then ((spec_l2Has.F (x164003.take (x5:Int).toNat) ((rd_T99 x164003 x5).f0)).bind fun t170=>(if t170=true then (some false) else (spec_l3NodeOk.L0 (wrap64 (x5+1)) x164000 x164001 x164002 x164003 x164004 x164005))) else (none))) else (none)) else (if x164002.toList=([]:List UInt8) then (some false) else (some (x164004.toList==([]:List UInt8)))):=by
 unfold spec_l3NodeOk.L0
 rw [← val_shift]
 simp only [spec_l3NodeOk.l0]
 try simp only [val_ite,val_const,val_bind,LeO_self,spec_l2Has.mono,val_m_spec_l3NodeOk_l0,forall_const]
 try rfl
theorem val_m_spec_l3NodeOk_j0 (y0:Bool) (y1:Int) (y2:Int) (y3:ByteArray) (y4:List (S99)) (y5:ByteArray) (y6:Int) (k:Nat):LeO (spec_l3NodeOk.j0 k y0 y1 y2 y3 y4 y5 y6) (spec_l3NodeOk.j0 (k+1) y0 y1 y2 y3 y4 y5 y6):=((spec_l3NodeOk.mono_l k).1) y0 y1 y2 y3 y4 y5 y6
theorem spec_l3NodeOk.F_eq (a0_0:Int) (a0_1:Int) (a0_2:ByteArray) (l0_3:List (S99)) (a0_4:ByteArray) (a0_5:Int) (a1:Bool):spec_l3NodeOk.F a0_0 a0_1 a0_2 l0_3 a0_4 a0_5 a1=if a0_0<0 then (spec_l3NodeOk.J0 true a0_0 a0_1 a0_2 l0_3 a0_4 a0_5) else (if a0_0 > 1000000 then (spec_l3NodeOk.J0 true a0_0 a0_1 a0_2 l0_3 a0_4 a0_5) else (spec_l3NodeOk.J0 ((a0_1==1) != a1) a0_0 a0_1 a0_2 l0_3 a0_4 a0_5)):=by
 unfold spec_l3NodeOk.F
 simp only [spec_l3NodeOk.f]
 try simp only [val_ite,val_const,val_bind,LeO_self,val_m_spec_l3NodeOk_j0,forall_const]
 try rfl
theorem val_m_spec_TreeOk_l0 (y0:Int) (y1:List Int) (y2:Int) (y3:List (S59)) (k:Nat):LeO (spec_TreeOk.l0 k y0 y1 y2 y3) (spec_TreeOk.l0 (k+1) y0 y1 y2 y3):=((spec_TreeOk.mono_l k).2.1) y0 y1 y2 y3
theorem spec_TreeOk.J0_eq (x3:Int) (x22:Bool) (x172000:List (S59)):spec_TreeOk.J0 x3 x22 x172000=if x22=true then (some false) else (spec_TreeOk.L0 x3 (([]:List Int)) 0 x172000):=by
 unfold spec_TreeOk.J0
 rw [← val_shift]
 simp only [spec_TreeOk.j0]
 try simp only [val_ite,val_const,val_bind,LeO_self,val_m_spec_TreeOk_l0,forall_const]
 try rfl
theorem val_m_spec_TreeOk_j2 (y0:Int) (y1:List Int) (y2:Int) (y3:Bool) (y4:List (S59)) (k:Nat):LeO (spec_TreeOk.j2 k y0 y1 y2 y3 y4) (spec_TreeOk.j2 (k+1) y0 y1 y2 y3 y4):=((spec_TreeOk.mono_l k).2.2.1) y0 y1 y2 y3 y4
theorem spec_TreeOk.L0_eq (x3:Int) (x4:List Int) (x5:Int) (x172000:List (S59)):spec_TreeOk.L0 x3 x4 x5 x172000=if x5<x3 then (if 0≤x5 then (if x5<(x172000.length:Int) then ((spec_l3NodeOk.F ((rd_T59 x172000 x5).f0) ((rd_T59 x172000 x5).f1) ((rd_T59 x172000 x5).f2) ((rd_T59 x172000 x5).f3) ((rd_T59 x172000 x5).f4) ((rd_T59 x172000 x5).f5) (x5==0)).bind fun t177=>(if t177=true then (spec_TreeOk.J2 x3 x4 x5 (decide ((x4.length:Int) > 400)) x172000) else (spec_TreeOk.J2 x3 x4 x5 true x172000))) else (none)) else (none)) else (some true):=by
 unfold spec_TreeOk.L0
 rw [← val_shift]
 simp only [spec_TreeOk.l0]
 try simp only [val_ite,val_const,val_bind,LeO_self,spec_l3NodeOk.mono,val_m_spec_TreeOk_j2,forall_const]
 try rfl
theorem val_m_spec_TreeOk_l1 (y0:Int) (y1:List Int) (y2:Int) (y3:Int) (y4:List (S59)) (k:Nat):LeO (spec_TreeOk.l1 k y0 y1 y2 y3 y4) (spec_TreeOk.l1 (k+1) y0 y1 y2 y3 y4):=((spec_TreeOk.mono_l k).2.2.2.1) y0 y1 y2 y3 y4
theorem spec_TreeOk.J2_eq (x3:Int) (x4:List Int) (x5:Int) (x42:Bool) (x172000:List (S59)):spec_TreeOk.J2 x3 x4 x5 x42 x172000=if x42=true then (some false) else (spec_TreeOk.L1 x3 x4 x5 0 x172000):=by
 unfold spec_TreeOk.J2
 rw [← val_shift]
 simp only [spec_TreeOk.j2]
 try simp only [val_ite,val_const,val_bind,LeO_self,val_m_spec_TreeOk_l1,forall_const]
 try rfl
theorem val_m_spec_TreeOk_j4 (y0:Int) (y1:List Int) (y2:Int) (y3:List (S59)) (k:Nat):LeO (spec_TreeOk.j4 k y0 y1 y2 y3) (spec_TreeOk.j4 (k+1) y0 y1 y2 y3):=((spec_TreeOk.mono_l k).2.2.2.2.1) y0 y1 y2 y3
theorem spec_TreeOk.L1_eq (x3:Int) (x4:List Int) (x5:Int) (x6:Int) (x172000:List (S59)):spec_TreeOk.L1 x3 x4 x5 x6 x172000=if x6<x5 then (if 0≤x6 then (if x6<(x172000.length:Int) then (if 0≤x5 then (if x5<(x172000.length:Int) then (if ((rd_T59 x172000 x6).f0)=((rd_T59 x172000 x5).f0) then (some false) else (spec_TreeOk.L1 x3 x4 x5 (wrap64 (x6+1)) x172000)) else (none)) else (none)) else (none)) else (none)) else (if (x4.length:Int) > 0 then (if 0≤(wrap64 ((x4.length:Int) - 1)) then (if (wrap64 ((x4.length:Int) - 1))<(x4.length:Int) then (spec_TreeOk.J4 x3 (x4.set ((wrap64 ((x4.length:Int) - 1)):Int).toNat (wrap64 ((rd x4 (wrap64 ((x4.length:Int) - 1))) - 1))) x5 x172000) else (none)) else (none)) else (spec_TreeOk.J4 x3 x4 x5 x172000)):=by
 unfold spec_TreeOk.L1
 rw [← val_shift]
 simp only [spec_TreeOk.l1]
 try simp only [val_ite,val_const,val_bind,LeO_self,val_m_spec_TreeOk_l1,val_m_spec_TreeOk_j4,forall_const]
 try rfl
theorem val_m_spec_TreeOk_l2 (y0:Int) (y1:List Int) (y2:Int) (y3:List (S59)) (k:Nat):LeO (spec_TreeOk.l2 k y0 y1 y2 y3) (spec_TreeOk.l2 (k+1) y0 y1 y2 y3):=((spec_TreeOk.mono_l k).2.2.2.2.2) y0 y1 y2 y3
theorem spec_TreeOk.J4_eq (x3:Int) (x4:List Int) (x5:Int) (x172000:List (S59)):spec_TreeOk.J4 x3 x4 x5 x172000=if 0≤x5 then (if x5<(x172000.length:Int) then (if x4.length<17592186044416 then (spec_TreeOk.L2 x3 (x4++[(rd_T59 x172000 x5).f5]) x5 x172000) else (none)) else (none)) else (none):=by
 unfold spec_TreeOk.J4
 rw [← val_shift]
 simp only [spec_TreeOk.j4]
 try simp only [val_ite,val_const,val_bind,LeO_self,val_m_spec_TreeOk_l2,forall_const]
 try rfl
theorem spec_TreeOk.L2_eq (x3:Int) (x4:List Int) (x5:Int) (x172000:List (S59)):spec_TreeOk.L2 x3 x4 x5 x172000=if (x4.length:Int) > 0 then (if 0≤(wrap64 ((x4.length:Int) - 1)) then (if (wrap64 ((x4.length:Int) - 1))<(x4.length:Int) then (if (rd x4 (wrap64 ((x4.length:Int) - 1)))=0 then (if (wrap64 ((x4.length:Int) - 1))≤(x4.length:Int) then (spec_TreeOk.L2 x3 (x4.take ((wrap64 ((x4.length:Int) - 1)):Int).toNat) x5 x172000) else (none)) else (spec_TreeOk.L0 x3 x4 (wrap64 (x5+1)) x172000)) else (none)) else (none)) else (spec_TreeOk.L0 x3 x4 (wrap64 (x5+1)) x172000):=by
 unfold spec_TreeOk.L2
 rw [← val_shift]
 simp only [spec_TreeOk.l2]
 try simp only [val_ite,val_const,val_bind,LeO_self,val_m_spec_TreeOk_l2,val_m_spec_TreeOk_l0,forall_const]
 try rfl
theorem val_m_spec_TreeOk_j0 (y0:Int) (y1:Bool) (y2:List (S59)) (k:Nat):LeO (spec_TreeOk.j0 k y0 y1 y2) (spec_TreeOk.j0 (k+1) y0 y1 y2):=((spec_TreeOk.mono_l k).1) y0 y1 y2
theorem spec_TreeOk.F_eq (l0_0:List (S59)):spec_TreeOk.F l0_0=if (l0_0.length:Int)<1 then (spec_TreeOk.J0 (l0_0.length:Int) true l0_0) else (if (l0_0.length:Int) > 4000 then (spec_TreeOk.J0 (l0_0.length:Int) true l0_0) else ((spec_l3Skip.F l0_0 0).bind fun t172=>(spec_TreeOk.J0 (l0_0.length:Int) (t172 != (l0_0.length:Int)) l0_0))):=by
 unfold spec_TreeOk.F
 simp only [spec_TreeOk.f]
 try simp only [val_ite,val_const,val_bind,LeO_self,val_m_spec_TreeOk_j0,spec_l3Skip.mono,forall_const]
 try rfl
theorem val_m_spec_l4At_l0 (y0:Int) (y1:Int) (y2:List (S59)) (k:Nat):LeO (spec_l4At.l0 k y0 y1 y2) (spec_l4At.l0 (k+1) y0 y1 y2):=((spec_l4At.mono_l k)) y0 y1 y2
theorem spec_l4At.L0_eq (x1:Int) (x5:Int) (x191000:List (S59)):spec_l4At.L0 x1 x5 x191000=if x5<(x191000.length:Int) then (if 0≤x5 then (if ((rd_T59 x191000 x5).f0)=x1 then (some x5) else (spec_l4At.L0 x1 (wrap64 (x5+1)) x191000)) else (none)) else (some (-1)):=by
 unfold spec_l4At.L0
 rw [← val_shift]
 simp only [spec_l4At.l0]
 try simp only [val_ite,val_const,val_bind,LeO_self,val_m_spec_l4At_l0,forall_const]
 try rfl
theorem spec_l4At.F_eq (l0_0:List (S59)) (a1:Int):spec_l4At.F l0_0 a1=spec_l4At.L0 a1 0 l0_0:=by
 unfold spec_l4At.F
 simp only [spec_l4At.f]
 try simp only [val_ite,val_const,val_bind,LeO_self,val_m_spec_l4At_l0,forall_const]
 try rfl
theorem spec_SpotOk.F_eq (l0_0:List (S59)) (a1_0:Int) (a1_1:Int):spec_SpotOk.F l0_0 a1_0 a1_1=(spec_TreeOk.F l0_0).bind fun t195=>(if t195=true then ((spec_l4At.F l0_0 a1_0).bind fun t196=>(if t196≥0 then (if a1_1≥0 then (if 0≤t196 then (if t196<(l0_0.length:Int) then ((spec_l5Most.f ((rd_T59 l0_0 t196).f0) ((rd_T59 l0_0 t196).f1) ((rd_T59 l0_0 t196).f2) ((rd_T59 l0_0 t196).f3) ((rd_T59 l0_0 t196).f4) ((rd_T59 l0_0 t196).f5)).bind fun t198=>(some (decide (a1_1≤t198)))) else (none)) else (none)) else (some false)) else (some false))) else (some false)):=by
 unfold spec_SpotOk.F
 simp only [spec_SpotOk.f]
 try simp only [val_ite,val_const,val_bind,LeO_self,spec_TreeOk.mono,spec_l4At.mono,forall_const]
 try rfl
theorem val_m_spec_l4Parents_j1 (y0:List (S59)) (y1:List Int) (y2:List Int) (y3:List Int) (y4:Int) (k:Nat):LeO (spec_l4Parents.j1 k y0 y1 y2 y3 y4) (spec_l4Parents.j1 (k+1) y0 y1 y2 y3 y4):=((spec_l4Parents.mono_l k).2.1) y0 y1 y2 y3 y4
theorem spec_l4Parents.L0_eq (x0:List (S59)) (x3:List Int) (x4:List Int) (x5:List Int) (x6:Int):spec_l4Parents.L0 x0 x3 x4 x5 x6=if x6<(x0.length:Int) then (if 0≤x6 then (if x6<(x3.length:Int) then ((some (x3.set (x6:Int).toNat (-1):List Int)).bind fun y208=>(if (x4.length:Int) > 0 then (if 0≤(wrap64 ((x4.length:Int) - 1)) then (if (wrap64 ((x4.length:Int) - 1))<(x4.length:Int) then (if 0≤(wrap64 ((x5.length:Int) - 1)) then (if (wrap64 ((x5.length:Int) - 1))<(x5.length:Int) then (spec_l4Parents.J1 x0 (y208.set (x6:Int).toNat (rd x4 (wrap64 ((x4.length:Int) - 1)))) x4 (x5.set ((wrap64 ((x5.length:Int) - 1)):Int).toNat (wrap64 ((rd x5 (wrap64 ((x5.length:Int) - 1))) - 1))) x6) else (none)) else (none)) else (none)) else (none)) else (spec_l4Parents.J1 x0 y208 x4 x5 x6))) else (none)) else (none)) else (some x3):=by
 unfold spec_l4Parents.L0
 rw [← val_shift]
 simp only [spec_l4Parents.l0]
 try simp only [val_ite,val_const,val_bind,LeO_self,val_m_spec_l4Parents_j1,forall_const]
 try rfl
theorem val_m_spec_l4Parents_l1 (y0:List (S59)) (y1:List Int) (y2:List Int) (y3:List Int) (y4:Int) (k:Nat):LeO (spec_l4Parents.l1 k y0 y1 y2 y3 y4) (spec_l4Parents.l1 (k+1) y0 y1 y2 y3 y4):=((spec_l4Parents.mono_l k).2.2) y0 y1 y2 y3 y4
theorem spec_l4Parents.J1_eq (x0:List (S59)) (x3:List Int) (x4:List Int) (x5:List Int) (x6:Int):spec_l4Parents.J1 x0 x3 x4 x5 x6=if x4.length<17592186044416 then (if 0≤x6 then (if x6<(x0.length:Int) then (if x5.length<17592186044416 then (spec_l4Parents.L1 x0 x3 (x4++[x6]) (x5++[(rd_T59 x0 x6).f5]) x6) else (none)) else (none)) else (none)) else (none):=by
 unfold spec_l4Parents.J1
 rw [← val_shift]
 simp only [spec_l4Parents.j1]
 try simp only [val_ite,val_const,val_bind,LeO_self,val_m_spec_l4Parents_l1,forall_const]
 try rfl
theorem val_m_spec_l4Parents_l0 (y0:List (S59)) (y1:List Int) (y2:List Int) (y3:List Int) (y4:Int) (k:Nat):LeO (spec_l4Parents.l0 k y0 y1 y2 y3 y4) (spec_l4Parents.l0 (k+1) y0 y1 y2 y3 y4):=((spec_l4Parents.mono_l k).1) y0 y1 y2 y3 y4
theorem spec_l4Parents.L1_eq (x0:List (S59)) (x3:List Int) (x4:List Int) (x5:List Int) (x6:Int):spec_l4Parents.L1 x0 x3 x4 x5 x6=if (x5.length:Int) > 0 then (if 0≤(wrap64 ((x5.length:Int) - 1)) then (if (wrap64 ((x5.length:Int) - 1))<(x5.length:Int) then (if (rd x5 (wrap64 ((x5.length:Int) - 1)))=0 then (if 0≤(wrap64 ((x4.length:Int) - 1)) then (if (wrap64 ((x4.length:Int) - 1))≤(x4.length:Int) then (if (wrap64 ((x5.length:Int) - 1))≤(x5.length:Int) then (spec_l4Parents.L1 x0 x3 (x4.take ((wrap64 ((x4.length:Int) - 1)):Int).toNat) (x5.take ((wrap64 ((x5.length:Int) - 1)):Int).toNat) x6) else (none)) else (none)) else (none)) else (spec_l4Parents.L0 x0 x3 x4 x5 (wrap64 (x6+1)))) else (none)) else (none)) else (spec_l4Parents.L0 x0 x3 x4 x5 (wrap64 (x6+1))):=by
 unfold spec_l4Parents.L1
 rw [← val_shift]
 simp only [spec_l4Parents.l1]
 try simp only [val_ite,val_const,val_bind,LeO_self,val_m_spec_l4Parents_l1,val_m_spec_l4Parents_l0,forall_const]
 try rfl
theorem spec_l4Parents.F_eq (l0:List (S59)):spec_l4Parents.F l0=if 0≤(l0.length:Int) then (if ((l0.length:Int):Int).toNat≤35184372088832 then (spec_l4Parents.L0 l0 (List.replicate ((l0.length:Int):Int).toNat 0) (([]:List Int)) (([]:List Int)) 0) else (none)) else (none):=by
 unfold spec_l4Parents.F
 simp only [spec_l4Parents.f]
 try simp only [val_ite,val_const,val_bind,LeO_self,val_m_spec_l4Parents_l0,forall_const]
 try rfl
theorem val_m_spec_l4KidsOf_l0 (y0:List (S59)) (y1:Int) (y2:List Int) (y3:Int) (y4:Int) (k:Nat):LeO (spec_l4KidsOf.l0 k y0 y1 y2 y3 y4) (spec_l4KidsOf.l0 (k+1) y0 y1 y2 y3 y4):=((spec_l4KidsOf.mono_l k)) y0 y1 y2 y3 y4
theorem spec_l4KidsOf.L0_eq (x0:List (S59)) (x1:Int) (x5:List Int) (x6:Int) (x7:Int):spec_l4KidsOf.L0 x0 x1 x5 x6 x7=if 0≤x1 then (if x1<(x0.length:Int) then (if x7<((rd_T59 x0 x1).f5) then (if x5.length<17592186044416 then ((spec_l3Skip.F x0 x6).bind fun t234=>(spec_l4KidsOf.L0 x0 x1 (x5++[x6]) t234 (wrap64 (x7+1)))) else (none)) else (some x5)) else (none)) else (none):=by
 unfold spec_l4KidsOf.L0
 rw [← val_shift]
 simp only [spec_l4KidsOf.l0]
 try simp only [val_ite,val_const,val_bind,LeO_self,spec_l3Skip.mono,val_m_spec_l4KidsOf_l0,forall_const]
 try rfl
theorem spec_l4KidsOf.F_eq (l0:List (S59)) (a1:Int):spec_l4KidsOf.F l0 a1=spec_l4KidsOf.L0 l0 a1 (([]:List Int)) (wrap64 (a1+1)) 0:=by
 unfold spec_l4KidsOf.F
 simp only [spec_l4KidsOf.f]
 try simp only [val_ite,val_const,val_bind,LeO_self,val_m_spec_l4KidsOf_l0,forall_const]
 try rfl
theorem val_m_spec_l3Find_l0 (y0:List Int) (y1:Int) (y2:Int) (k:Nat):LeO (spec_l3Find.l0 k y0 y1 y2) (spec_l3Find.l0 (k+1) y0 y1 y2):=((spec_l3Find.mono_l k)) y0 y1 y2
theorem spec_l3Find.L0_eq (x0:List Int) (x1:Int) (x5:Int):spec_l3Find.L0 x0 x1 x5=if x5<(x0.length:Int) then (if 0≤x5 then (if (rd x0 x5)=x1 then (some x5) else (spec_l3Find.L0 x0 x1 (wrap64 (x5+1)))) else (none)) else (some (-1)):=by
 unfold spec_l3Find.L0
 rw [← val_shift]
 simp only [spec_l3Find.l0]
 try simp only [val_ite,val_const,val_bind,LeO_self,val_m_spec_l3Find_l0,forall_const]
 try rfl
theorem spec_l3Find.F_eq (l0:List Int) (a1:Int):spec_l3Find.F l0 a1=spec_l3Find.L0 l0 a1 0:=by
 unfold spec_l3Find.F
 simp only [spec_l3Find.f]
 try simp only [val_ite,val_const,val_bind,LeO_self,val_m_spec_l3Find_l0,forall_const]
 try rfl
theorem spec_l5Number.F_eq (l0:List (S59)) (a1:Int) (a2:Int):spec_l5Number.F l0 a1 a2=(spec_l4KidsOf.F l0 a1).bind fun t236=>((spec_l3Find.F t236 a2).bind fun t239=>(some t239)):=by
 unfold spec_l5Number.F
 simp only [spec_l5Number.f]
 try simp only [val_ite,val_const,val_bind,LeO_self,spec_l4KidsOf.mono,spec_l3Find.mono,forall_const]
 try rfl
theorem val_m_spec_l5Path_l0 (y0:List Int) (y1:Int) (y2:List Int) (y3:List (S59)) (k:Nat):LeO (spec_l5Path.l0 k y0 y1 y2 y3) (spec_l5Path.l0 (k+1) y0 y1 y2 y3):=((spec_l5Path.mono_l k)) y0 y1 y2 y3
theorem spec_l5Path.L0_eq (x5:List Int) (x6:Int) (x7:List Int) (x241000:List (S59)):spec_l5Path.L0 x5 x6 x7 x241000=if 0≤x6 then (if x6<(x5.length:Int) then (if (rd x5 x6)≥0 then ((spec_l5Number.F x241000 (rd x5 x6) x6).bind fun t251=>((some (([t251]:List Int):List Int)).bind fun y252=>(if y252.length+x7.length<17592186044416 then (spec_l5Path.L0 x5 (rd x5 x6) (y252++x7) x241000) else (none)))) else (some x7)) else (none)) else (none):=by
 unfold spec_l5Path.L0
 rw [← val_shift]
 simp only [spec_l5Path.l0]
 try simp only [val_ite,val_const,val_bind,LeO_self,spec_l5Number.mono,val_m_spec_l5Path_l0,forall_const]
 try rfl
theorem spec_l5Path.F_eq (l0_0:List (S59)) (a1_0:Int) (a1_1:Int):spec_l5Path.F l0_0 a1_0 a1_1=(spec_l4Parents.F l0_0).bind fun t242=>((spec_l4At.F l0_0 a1_0).bind fun t245=>(spec_l5Path.L0 t242 t245 (([a1_1]:List Int)) l0_0)):=by
 unfold spec_l5Path.F
 simp only [spec_l5Path.f]
 try simp only [val_ite,val_const,val_bind,LeO_self,spec_l4Parents.mono,spec_l4At.mono,val_m_spec_l5Path_l0,forall_const]
 try rfl
theorem val_m_spec_l5Less_j1 (y0:List Int) (y1:List Int) (y2:Int) (y3:Bool) (k:Nat):LeO (spec_l5Less.j1 k y0 y1 y2 y3) (spec_l5Less.j1 (k+1) y0 y1 y2 y3):=((spec_l5Less.mono_l k).2.1) y0 y1 y2 y3
theorem spec_l5Less.L0_eq (x7:List Int) (x8:List Int) (x9:Int):spec_l5Less.L0 x7 x8 x9=if x9<(x7.length:Int) then (spec_l5Less.J1 x7 x8 x9 (decide (x9<(x8.length:Int)))) else (spec_l5Less.J1 x7 x8 x9 false):=by
 unfold spec_l5Less.L0
 rw [← val_shift]
 simp only [spec_l5Less.l0]
 try simp only [val_ite,val_const,val_bind,LeO_self,val_m_spec_l5Less_j1,forall_const]
 try rfl
theorem val_m_spec_l5Less_j2 (y0:List Int) (y1:List Int) (y2:Int) (y3:Bool) (y4:Bool) (y5:Bool) (k:Nat):LeO (spec_l5Less.j2 k y0 y1 y2 y3 y4 y5) (spec_l5Less.j2 (k+1) y0 y1 y2 y3 y4 y5):=((spec_l5Less.mono_l k).2.2) y0 y1 y2 y3 y4 y5
theorem spec_l5Less.J1_eq (x7:List Int) (x8:List Int) (x9:Int) (x27:Bool):spec_l5Less.J1 x7 x8 x9 x27=if x27=true then (if x9=(wrap64 ((x7.length:Int) - 1)) then (spec_l5Less.J2 x7 x8 x9 (x9==(wrap64 ((x7.length:Int) - 1))) (x9==(wrap64 ((x8.length:Int) - 1))) (x9==(wrap64 ((x8.length:Int) - 1)))) else (spec_l5Less.J2 x7 x8 x9 (x9==(wrap64 ((x7.length:Int) - 1))) (x9==(wrap64 ((x8.length:Int) - 1))) false)) else (some false):=by
 unfold spec_l5Less.J1
 rw [← val_shift]
 simp only [spec_l5Less.j1]
 try simp only [val_ite,val_const,val_bind,LeO_self,val_m_spec_l5Less_j2,forall_const]
 try rfl
theorem val_m_spec_l5Less_l0 (y0:List Int) (y1:List Int) (y2:Int) (k:Nat):LeO (spec_l5Less.l0 k y0 y1 y2) (spec_l5Less.l0 (k+1) y0 y1 y2):=((spec_l5Less.mono_l k).1) y0 y1 y2
theorem spec_l5Less.J2_eq (x7:List Int) (x8:List Int) (x9:Int) (x10:Bool) (x11:Bool) (x43:Bool):spec_l5Less.J2 x7 x8 x9 x10 x11 x43=if x43=true then (if 0≤x9 then (if x9<(x7.length:Int) then (if x9<(x8.length:Int) then (some (decide ((rd x7 x9)<(rd x8 x9)))) else (none)) else (none)) else (none)) else (if x10=true then (if 0≤x9 then (if x9<(x7.length:Int) then (if x9<(x8.length:Int) then (some (decide ((rd x7 x9)≤(rd x8 x9)))) else (none)) else (none)) else (none)) else (if 0≤x9 then (if x9<(x7.length:Int) then (if x9<(x8.length:Int) then (if (rd x7 x9)=(rd x8 x9) then (if x11=true then (some false) else (spec_l5Less.L0 x7 x8 (wrap64 (x9+1)))) else (some (decide ((rd x7 x9)<(rd x8 x9))))) else (none)) else (none)) else (none))):=by
 unfold spec_l5Less.J2
 rw [← val_shift]
 simp only [spec_l5Less.j2]
 try simp only [val_ite,val_const,val_bind,LeO_self,val_m_spec_l5Less_l0,forall_const]
 try rfl
theorem spec_l5Less.F_eq (l0_0:List (S59)) (a1_0:Int) (a1_1:Int) (a2_0:Int) (a2_1:Int):spec_l5Less.F l0_0 a1_0 a1_1 a2_0 a2_1=(spec_l5Path.F l0_0 a1_0 a1_1).bind fun t262=>((spec_l5Path.F l0_0 a2_0 a2_1).bind fun t265=>(spec_l5Less.L0 t262 t265 0)):=by
 unfold spec_l5Less.F
 simp only [spec_l5Less.f]
 try simp only [val_ite,val_const,val_bind,LeO_self,spec_l5Path.mono,val_m_spec_l5Less_l0,forall_const]
 try rfl
theorem spec_l5RangeOk.F_eq (l0_0:List (S59)) (a1_0:Int) (a1_1:Int) (a1_2:Int) (a1_3:Int):spec_l5RangeOk.F l0_0 a1_0 a1_1 a1_2 a1_3=(spec_SpotOk.F l0_0 a1_0 a1_1).bind fun t278=>(if t278=true then ((spec_SpotOk.F l0_0 a1_2 a1_3).bind fun t279=>(if t279=true then ((spec_l5Less.F l0_0 a1_2 a1_3 a1_0 a1_1).bind fun t280=>(some (!t280))) else (some false))) else (some false)):=by
 unfold spec_l5RangeOk.F
 simp only [spec_l5RangeOk.f]
 try simp only [val_ite,val_const,val_bind,LeO_self,spec_SpotOk.mono,spec_l5Less.mono,forall_const]
 try rfl
theorem val_m_spec_l5Place_l0 (y0:List (S59)) (y1:Int) (y2:Int) (k:Nat):LeO (spec_l5Place.l0 k y0 y1 y2) (spec_l5Place.l0 (k+1) y0 y1 y2):=((spec_l5Place.mono_l k)) y0 y1 y2
theorem spec_l5Place.L0_eq (x0:List (S59)) (x2:Int) (x7:Int):spec_l5Place.L0 x0 x2 x7=if x2 > 0 then ((spec_l3Skip.F x0 x7).bind fun t281=>(spec_l5Place.L0 x0 (wrap64 (x2 - 1)) t281)) else (some x7):=by
 unfold spec_l5Place.L0
 rw [← val_shift]
 simp only [spec_l5Place.l0]
 try simp only [val_ite,val_const,val_bind,LeO_self,spec_l3Skip.mono,val_m_spec_l5Place_l0,forall_const]
 try rfl
theorem spec_l5Place.F_eq (l0:List (S59)) (a1:Int) (a2:Int):spec_l5Place.F l0 a1 a2=spec_l5Place.L0 l0 a2 (wrap64 (a1+1)):=by
 unfold spec_l5Place.F
 simp only [spec_l5Place.f]
 try simp only [val_ite,val_const,val_bind,LeO_self,val_m_spec_l5Place_l0,forall_const]
 try rfl
theorem spec_l5Edge.F_eq (l0_0:List (S59)) (a1_0:Int) (a1_1:Int):spec_l5Edge.F l0_0 a1_0 a1_1=(spec_l4At.F l0_0 a1_0).bind fun t284=>(if 0≤t284 then (if t284<(l0_0.length:Int) then (if ((rd_T59 l0_0 t284).f1)=3 then (some (t284,a1_1)) else ((spec_l5Place.F l0_0 t284 a1_1).bind fun t286=>(some (t286,(-1))))) else (none)) else (none)):=by
 unfold spec_l5Edge.F
 simp only [spec_l5Edge.f]
 try simp only [val_ite,val_const,val_bind,LeO_self,spec_l4At.mono,spec_l5Place.mono,forall_const]
 try rfl
theorem val_m_spec_RangeText_j1 (y0:List Int) (y1:Int) (y2:Int) (y3:Int) (y4:Int) (y5:Int) (y6:Bool) (y7:List (S59)) (k:Nat):LeO (spec_RangeText.j1 k y0 y1 y2 y3 y4 y5 y6 y7) (spec_RangeText.j1 (k+1) y0 y1 y2 y3 y4 y5 y6 y7):=((spec_RangeText.mono_l k).2.1) y0 y1 y2 y3 y4 y5 y6 y7
theorem spec_RangeText.L0_eq (x5:List Int) (x6:Int) (x7:Int) (x8:Int) (x9:Int) (x10:Int) (x288000:List (S59)):spec_RangeText.L0 x5 x6 x7 x8 x9 x10 x288000=if x10<(x288000.length:Int) then (spec_RangeText.J1 x5 x6 x7 x8 x9 x10 (decide (x10≤x8)) x288000) else (spec_RangeText.J1 x5 x6 x7 x8 x9 x10 false x288000):=by
 unfold spec_RangeText.L0
 rw [← val_shift]
 simp only [spec_RangeText.l0]
 try simp only [val_ite,val_const,val_bind,LeO_self,val_m_spec_RangeText_j1,forall_const]
 try rfl
theorem val_m_spec_RangeText_j2 (y0:List Int) (y1:Int) (y2:Int) (y3:Int) (y4:Int) (y5:Int) (y6:Bool) (y7:List (S59)) (k:Nat):LeO (spec_RangeText.j2 k y0 y1 y2 y3 y4 y5 y6 y7) (spec_RangeText.j2 (k+1) y0 y1 y2 y3 y4 y5 y6 y7):=((spec_RangeText.mono_l k).2.2.1) y0 y1 y2 y3 y4 y5 y6 y7
theorem spec_RangeText.J1_eq (x5:List Int) (x6:Int) (x7:Int) (x8:Int) (x9:Int) (x10:Int) (x42:Bool) (x288000:List (S59)):spec_RangeText.J1 x5 x6 x7 x8 x9 x10 x42 x288000=if x42=true then (if 0≤x10 then (if x10<(x288000.length:Int) then (if ((rd_T59 x288000 x10).f1)=3 then (if x10=x8 then (spec_RangeText.J2 x5 x6 x7 x8 x9 x10 (decide (x9<0)) x288000) else (spec_RangeText.J2 x5 x6 x7 x8 x9 x10 false x288000)) else (spec_RangeText.J2 x5 x6 x7 x8 x9 x10 true x288000)) else (none)) else (none)) else (some (strOfNums x5)):=by
 unfold spec_RangeText.J1
 rw [← val_shift]
 simp only [spec_RangeText.j1]
 try simp only [val_ite,val_const,val_bind,LeO_self,val_m_spec_RangeText_j2,forall_const]
 try rfl
theorem val_m_spec_RangeText_l0 (y0:List Int) (y1:Int) (y2:Int) (y3:Int) (y4:Int) (y5:Int) (y6:List (S59)) (k:Nat):LeO (spec_RangeText.l0 k y0 y1 y2 y3 y4 y5 y6) (spec_RangeText.l0 (k+1) y0 y1 y2 y3 y4 y5 y6):=((spec_RangeText.mono_l k).1) y0 y1 y2 y3 y4 y5 y6
theorem val_m_spec_RangeText_j3 (y0:List Int) (y1:Int) (y2:Int) (y3:Int) (y4:Int) (y5:Int) (y6:Int) (y7:Int) (y8:Bool) (y9:List (S59)) (k:Nat):LeO (spec_RangeText.j3 k y0 y1 y2 y3 y4 y5 y6 y7 y8 y9) (spec_RangeText.j3 (k+1) y0 y1 y2 y3 y4 y5 y6 y7 y8 y9):=((spec_RangeText.mono_l k).2.2.2.1) y0 y1 y2 y3 y4 y5 y6 y7 y8 y9
theorem spec_RangeText.J2_eq (x5:List Int) (x6:Int) (x7:Int) (x8:Int) (x9:Int) (x10:Int) (x60:Bool) (x288000:List (S59)):spec_RangeText.J2 x5 x6 x7 x8 x9 x10 x60 x288000=if x60=true then (spec_RangeText.L0 x5 x6 x7 x8 x9 (wrap64 (x10+1)) x288000) else (if 0≤x10 then (if x10<(x288000.length:Int) then (if x10=x6 then (spec_RangeText.J3 x5 x6 x7 x8 x9 x10 0 (((rd_T59 x288000 x10).f4).size:Int) (decide (x7≥0)) x288000) else (spec_RangeText.J3 x5 x6 x7 x8 x9 x10 0 (((rd_T59 x288000 x10).f4).size:Int) false x288000)) else (none)) else (none)):=by
 unfold spec_RangeText.J2
 rw [← val_shift]
 simp only [spec_RangeText.j2]
 try simp only [val_ite,val_const,val_bind,LeO_self,val_m_spec_RangeText_l0,val_m_spec_RangeText_j3,forall_const]
 try rfl
theorem val_m_spec_RangeText_j4 (y0:List Int) (y1:Int) (y2:Int) (y3:Int) (y4:Int) (y5:Int) (y6:Int) (y7:Int) (y8:List (S59)) (k:Nat):LeO (spec_RangeText.j4 k y0 y1 y2 y3 y4 y5 y6 y7 y8) (spec_RangeText.j4 (k+1) y0 y1 y2 y3 y4 y5 y6 y7 y8):=((spec_RangeText.mono_l k).2.2.2.2) y0 y1 y2 y3 y4 y5 y6 y7 y8
theorem spec_RangeText.J3_eq (x5:List Int) (x6:Int) (x7:Int) (x8:Int) (x9:Int) (x10:Int) (x11:Int) (x12:Int) (x74:Bool) (x288000:List (S59)):spec_RangeText.J3 x5 x6 x7 x8 x9 x10 x11 x12 x74 x288000=if x74=true then (spec_RangeText.J4 x5 x6 x7 x8 x9 x10 x7 x12 x288000) else (spec_RangeText.J4 x5 x6 x7 x8 x9 x10 x11 x12 x288000):=by
 unfold spec_RangeText.J3
 rw [← val_shift]
 simp only [spec_RangeText.j3]
 try simp only [val_ite,val_const,val_bind,LeO_self,val_m_spec_RangeText_j4,forall_const]
 try rfl
theorem spec_RangeText.J4_eq (x5:List Int) (x6:Int) (x7:Int) (x8:Int) (x9:Int) (x10:Int) (x11:Int) (x12:Int) (x288000:List (S59)):spec_RangeText.J4 x5 x6 x7 x8 x9 x10 x11 x12 x288000=if x10=x8 then (if x11<x9 then (if 0≤x10 then (if x10<(x288000.length:Int) then (if 0≤x11 then (if x11≤x9 then (if x9≤(((rd_T59 x288000 x10).f4).size:Int) then (if x5.length+(((rd_T59 x288000 x10).f4).extract (x11:Int).toNat (x9:Int).toNat).size<140737488355328 then (spec_RangeText.L0 (x5++bytesOf (((rd_T59 x288000 x10).f4).extract (x11:Int).toNat (x9:Int).toNat)) x6 x7 x8 x9 (wrap64 (x10+1)) x288000) else (none)) else (none)) else (none)) else (none)) else (none)) else (none)) else (spec_RangeText.L0 x5 x6 x7 x8 x9 (wrap64 (x10+1)) x288000)) else (if x11<x12 then (if 0≤x10 then (if x10<(x288000.length:Int) then (if 0≤x11 then (if x11≤x12 then (if x12≤(((rd_T59 x288000 x10).f4).size:Int) then (if x5.length+(((rd_T59 x288000 x10).f4).extract (x11:Int).toNat (x12:Int).toNat).size<140737488355328 then (spec_RangeText.L0 (x5++bytesOf (((rd_T59 x288000 x10).f4).extract (x11:Int).toNat (x12:Int).toNat)) x6 x7 x8 x9 (wrap64 (x10+1)) x288000) else (none)) else (none)) else (none)) else (none)) else (none)) else (none)) else (spec_RangeText.L0 x5 x6 x7 x8 x9 (wrap64 (x10+1)) x288000)):=by
 unfold spec_RangeText.J4
 rw [← val_shift]
 simp only [spec_RangeText.j4]
 try simp only [val_ite,val_const,val_bind,LeO_self,val_m_spec_RangeText_l0,forall_const]
 try rfl
theorem spec_RangeText.F_eq (l0_0:List (S59)) (a1_0:Int) (a1_1:Int) (a1_2:Int) (a1_3:Int):spec_RangeText.F l0_0 a1_0 a1_1 a1_2 a1_3=(spec_l5RangeOk.F l0_0 a1_0 a1_1 a1_2 a1_3).bind fun t292=>(if t292=true then ((spec_l5Edge.F l0_0 a1_0 a1_1).bind fun bt293=>((spec_l5Edge.F l0_0 a1_2 a1_3).bind fun bt295=>(spec_RangeText.L0 (([]:List Int)) bt293.1 bt293.2 bt295.1 bt295.2 bt293.1 l0_0))) else (some (⟨#[]⟩:ByteArray))):=by
 unfold spec_RangeText.F
 simp only [spec_RangeText.f]
 try simp only [val_ite,val_const,val_bind,LeO_self,spec_l5RangeOk.mono,spec_l5Edge.mono,val_m_spec_RangeText_l0,forall_const]
 try rfl
theorem val_m_impl_attrsRight_l0 (y0:List ByteArray) (y1:List (S99)) (y2:Int) (y3:Int) (k:Nat):LeO (impl_attrsRight.l0 k y0 y1 y2 y3) (impl_attrsRight.l0 (k+1) y0 y1 y2 y3):=((impl_attrsRight.mono_l k)) y0 y1 y2 y3
theorem impl_attrsRight.L0_eq (x3:List ByteArray) (x7:List (S99)) (x8:Int) (x9:Int):impl_attrsRight.L0 x3 x7 x8 x9=if x9<x8 then (if 0≤x9 then (if x9<(x7.length:Int) then (if ((rd_T99 x7 x9).f0).toList=([]:List UInt8) then (some false) else (if smem x3 ((rd_T99 x7 x9).f0)=true then (some false) else (if (0:Nat)≤9223372036854775807 then (impl_attrsRight.L0 (((rd_T99 x7 x9).f0)::x3) x7 x8 (wrap64 (x9+1))) else (none)))) else (none)) else (none)) else (some true):=by
 unfold impl_attrsRight.L0
 rw [← val_shift]
 simp only [impl_attrsRight.l0]
 try simp only [val_ite,val_const,val_bind,LeO_self,val_m_impl_attrsRight_l0,forall_const]
 try rfl
theorem impl_attrsRight.F_eq (l0:List (S99)):impl_attrsRight.F l0=impl_attrsRight.L0 ([]:List ByteArray) l0 (l0.length:Int) 0:=by
 unfold impl_attrsRight.F
 simp only [impl_attrsRight.f]
 try simp only [val_ite,val_const,val_bind,LeO_self,val_m_impl_attrsRight_l0,forall_const]
 try rfl
theorem impl_nodeRight.J0_eq (x24:Bool) (x320000:Int) (x320001:Int) (x320002:ByteArray) (x320003:List (S99)) (x320004:ByteArray) (x320005:Int):impl_nodeRight.J0 x24 x320000 x320001 x320002 x320003 x320004 x320005=if x24=true then (some false) else (if x320001=1 then (if x320002.toList=([]:List UInt8) then (if (x320003.length:Int)=0 then (some (x320004.toList==([]:List UInt8))) else (some false)) else (some false)) else (if x320001=2 then (if x320002.toList=([]:List UInt8) then (some false) else (if x320004.toList=([]:List UInt8) then ((impl_attrsRight.F x320003).bind fun t320=>(some t320)) else (some false))) else (if x320001=3 then (if x320004.toList=([]:List UInt8) then (some false) else (if x320002.toList=([]:List UInt8) then (if (x320003.length:Int)=0 then (some (x320005==0)) else (some false)) else (some false))) else (if x320001=4 then (if x320002.toList=([]:List UInt8) then (if (x320003.length:Int)=0 then (some (x320005==0)) else (some false)) else (some false)) else (if x320001=5 then (if x320004.toList=([]:List UInt8) then (if (x320003.length:Int)=0 then (some (x320005==0)) else (some false)) else (some false)) else (some false)))))):=by
 unfold impl_nodeRight.J0
 rw [← val_shift]
 simp only [impl_nodeRight.j0]
 try simp only [val_ite,val_const,val_bind,LeO_self,impl_attrsRight.mono,forall_const]
 try rfl
theorem val_m_impl_nodeRight_j0 (y0:Bool) (y1:Int) (y2:Int) (y3:ByteArray) (y4:List (S99)) (y5:ByteArray) (y6:Int) (k:Nat):LeO (impl_nodeRight.j0 k y0 y1 y2 y3 y4 y5 y6) (impl_nodeRight.j0 (k+1) y0 y1 y2 y3 y4 y5 y6):=((impl_nodeRight.mono_l k)) y0 y1 y2 y3 y4 y5 y6
theorem impl_nodeRight.F_eq (a0_0:Int) (a0_1:Int) (a0_2:ByteArray) (l0_3:List (S99)) (a0_4:ByteArray) (a0_5:Int) (a1:Bool):impl_nodeRight.F a0_0 a0_1 a0_2 l0_3 a0_4 a0_5 a1=if a0_0<0 then (impl_nodeRight.J0 true a0_0 a0_1 a0_2 l0_3 a0_4 a0_5) else (if a0_0 > 1000000 then (impl_nodeRight.J0 true a0_0 a0_1 a0_2 l0_3 a0_4 a0_5) else (if a0_5<0 then (impl_nodeRight.J0 true a0_0 a0_1 a0_2 l0_3 a0_4 a0_5) else (impl_nodeRight.J0 (a1 != (a0_1==1)) a0_0 a0_1 a0_2 l0_3 a0_4 a0_5))):=by
 unfold impl_nodeRight.F
 simp only [impl_nodeRight.f]
 try simp only [val_ite,val_const,val_bind,LeO_self,val_m_impl_nodeRight_j0,forall_const]
 try rfl
theorem val_m_impl_TreeOk_l0 (y0:List Int) (y1:List Int) (y2:List (S59)) (y3:Int) (y4:Int) (k:Nat):LeO (impl_TreeOk.l0 k y0 y1 y2 y3 y4) (impl_TreeOk.l0 (k+1) y0 y1 y2 y3 y4):=((impl_TreeOk.mono_l k).2.1) y0 y1 y2 y3 y4
theorem impl_TreeOk.J0_eq (x18:Bool) (x322000:List (S59)):impl_TreeOk.J0 x18 x322000=if x18=true then (some false) else (impl_TreeOk.L0 ([]:List Int) (([]:List Int)) x322000 (x322000.length:Int) 0):=by
 unfold impl_TreeOk.J0
 rw [← val_shift]
 simp only [impl_TreeOk.j0]
 try simp only [val_ite,val_const,val_bind,LeO_self,val_m_impl_TreeOk_l0,forall_const]
 try rfl
theorem val_m_impl_TreeOk_j2 (y0:List Int) (y1:List Int) (y2:Int) (y3:List (S59)) (y4:Int) (y5:Int) (y6:Bool) (y7:Int) (y8:Int) (y9:ByteArray) (y10:List (S99)) (y11:ByteArray) (y12:Int) (k:Nat):LeO (impl_TreeOk.j2 k y0 y1 y2 y3 y4 y5 y6 y7 y8 y9 y10 y11 y12) (impl_TreeOk.j2 (k+1) y0 y1 y2 y3 y4 y5 y6 y7 y8 y9 y10 y11 y12):=((impl_TreeOk.mono_l k).2.2.1) y0 y1 y2 y3 y4 y5 y6 y7 y8 y9 y10 y11 y12
theorem val_m_impl_TreeOk_l2 (y0:List Int) (y1:Int) (y2:Int) (k:Nat):LeO (impl_TreeOk.l2 k y0 y1 y2) (impl_TreeOk.l2 (k+1) y0 y1 y2):=((impl_TreeOk.mono_l k).2.2.2.2.2.2) y0 y1 y2
theorem impl_TreeOk.L0_eq (x3:List Int) (x4:List Int) (x22:List (S59)) (x23:Int) (x24:Int):impl_TreeOk.L0 x3 x4 x22 x23 x24=if x24<x23 then (if 0≤x24 then (if x24<(x22.length:Int) then ((impl_nodeRight.F ((rd_T59 x22 x24).f0) ((rd_T59 x22 x24).f1) ((rd_T59 x22 x24).f2) ((rd_T59 x22 x24).f3) ((rd_T59 x22 x24).f4) ((rd_T59 x22 x24).f5) (x24==0)).bind fun t327=>(if t327=true then (impl_TreeOk.J2 x3 x4 x24 x22 x23 x24 (smem x3 ((rd_T59 x22 x24).f0)) ((rd_T59 x22 x24).f0) ((rd_T59 x22 x24).f1) ((rd_T59 x22 x24).f2) ((rd_T59 x22 x24).f3) ((rd_T59 x22 x24).f4) ((rd_T59 x22 x24).f5)) else (impl_TreeOk.J2 x3 x4 x24 x22 x23 x24 true ((rd_T59 x22 x24).f0) ((rd_T59 x22 x24).f1) ((rd_T59 x22 x24).f2) ((rd_T59 x22 x24).f3) ((rd_T59 x22 x24).f4) ((rd_T59 x22 x24).f5)))) else (none)) else (none)) else (impl_TreeOk.L2 x4 (x4.length:Int) 0):=by
 unfold impl_TreeOk.L0
 rw [← val_shift]
 simp only [impl_TreeOk.l0]
 try simp only [val_ite,val_const,val_bind,LeO_self,impl_nodeRight.mono,val_m_impl_TreeOk_j2,val_m_impl_TreeOk_l2,forall_const]
 try rfl
theorem val_m_impl_TreeOk_l1 (y0:List Int) (y1:List Int) (y2:Int) (y3:List (S59)) (y4:Int) (y5:Int) (y6:Int) (y7:Int) (y8:ByteArray) (y9:List (S99)) (y10:ByteArray) (y11:Int) (k:Nat):LeO (impl_TreeOk.l1 k y0 y1 y2 y3 y4 y5 y6 y7 y8 y9 y10 y11) (impl_TreeOk.l1 (k+1) y0 y1 y2 y3 y4 y5 y6 y7 y8 y9 y10 y11):=((impl_TreeOk.mono_l k).2.2.2.2.2.1) y0 y1 y2 y3 y4 y5 y6 y7 y8 y9 y10 y11
theorem impl_TreeOk.J2_eq (x3:List Int) (x4:List Int) (x5:Int) (x22:List (S59)) (x23:Int) (x24:Int) (x39:Bool) (x327000:Int) (x327001:Int) (x327002:ByteArray) (x327003:List (S99)) (x327004:ByteArray) (x327005:Int):impl_TreeOk.J2 x3 x4 x5 x22 x23 x24 x39 x327000 x327001 x327002 x327003 x327004 x327005=if x39=true then (some false) else (impl_TreeOk.L1 (x327000::x3) x4 x5 x22 x23 x24 x327000 x327001 x327002 x327003 x327004 x327005):=by
 unfold impl_TreeOk.J2
 rw [← val_shift]
 simp only [impl_TreeOk.j2]
 try simp only [val_ite,val_const,val_bind,LeO_self,val_m_impl_TreeOk_l1,forall_const]
 try rfl
theorem val_m_impl_TreeOk_j5 (y0:List Int) (y1:List Int) (y2:List (S59)) (y3:Int) (y4:Int) (y5:Bool) (y6:Int) (y7:Int) (y8:ByteArray) (y9:List (S99)) (y10:ByteArray) (y11:Int) (k:Nat):LeO (impl_TreeOk.j5 k y0 y1 y2 y3 y4 y5 y6 y7 y8 y9 y10 y11) (impl_TreeOk.j5 (k+1) y0 y1 y2 y3 y4 y5 y6 y7 y8 y9 y10 y11):=((impl_TreeOk.mono_l k).2.2.2.2.1) y0 y1 y2 y3 y4 y5 y6 y7 y8 y9 y10 y11
theorem impl_TreeOk.J4_eq (x3:List Int) (x4:List Int) (x5:Int) (x22:List (S59)) (x23:Int) (x24:Int) (x327000:Int) (x327001:Int) (x327002:ByteArray) (x327003:List (S99)) (x327004:ByteArray) (x327005:Int):impl_TreeOk.J4 x3 x4 x5 x22 x23 x24 x327000 x327001 x327002 x327003 x327004 x327005=if x5 > 0 then (if (x4.length:Int)=0 then (impl_TreeOk.J5 x3 x4 x22 x23 x24 true x327000 x327001 x327002 x327003 x327004 x327005) else (impl_TreeOk.J5 x3 x4 x22 x23 x24 (decide ((x4.length:Int) > 400)) x327000 x327001 x327002 x327003 x327004 x327005)) else (impl_TreeOk.J5 x3 x4 x22 x23 x24 (decide ((x4.length:Int) > 400)) x327000 x327001 x327002 x327003 x327004 x327005):=by
 unfold impl_TreeOk.J4
 rw [← val_shift]
 simp only [impl_TreeOk.j4]
 try simp only [val_ite,val_const,val_bind,LeO_self,val_m_impl_TreeOk_j5,forall_const]
 try rfl
theorem impl_TreeOk.J5_eq (x3:List Int) (x4:List Int) (x22:List (S59)) (x23:Int) (x24:Int) (x71:Bool) (x327000:Int) (x327001:Int) (x327002:ByteArray) (x327003:List (S99)) (x327004:ByteArray) (x327005:Int):impl_TreeOk.J5 x3 x4 x22 x23 x24 x71 x327000 x327001 x327002 x327003 x327004 x327005=if x71=true then (some false) else (if (x4.length:Int) > 0 then (if 0≤(wrap64 ((x4.length:Int) - 1)) then (if (wrap64 ((x4.length:Int) - 1))<(x4.length:Int) then ((some (x4.set ((wrap64 ((x4.length:Int) - 1)):Int).toNat (wrap64 ((rd x4 (wrap64 ((x4.length:Int) - 1))) - 1)):List Int)).bind fun y333=>(if y333.length<17592186044416 then (impl_TreeOk.L0 x3 (y333++[x327005]) x22 x23 (wrap64 (x24+1))) else (none))) else (none)) else (none)) else (if x4.length<17592186044416 then (impl_TreeOk.L0 x3 (x4++[x327005]) x22 x23 (wrap64 (x24+1))) else (none))):=by
 unfold impl_TreeOk.J5
 rw [← val_shift]
 simp only [impl_TreeOk.j5]
 try simp only [val_ite,val_const,val_bind,LeO_self,val_m_impl_TreeOk_l0,forall_const]
 try rfl
theorem val_m_impl_TreeOk_j4 (y0:List Int) (y1:List Int) (y2:Int) (y3:List (S59)) (y4:Int) (y5:Int) (y6:Int) (y7:Int) (y8:ByteArray) (y9:List (S99)) (y10:ByteArray) (y11:Int) (k:Nat):LeO (impl_TreeOk.j4 k y0 y1 y2 y3 y4 y5 y6 y7 y8 y9 y10 y11) (impl_TreeOk.j4 (k+1) y0 y1 y2 y3 y4 y5 y6 y7 y8 y9 y10 y11):=((impl_TreeOk.mono_l k).2.2.2.1) y0 y1 y2 y3 y4 y5 y6 y7 y8 y9 y10 y11
theorem impl_TreeOk.L1_eq (x3:List Int) (x4:List Int) (x5:Int) (x22:List (S59)) (x23:Int) (x24:Int) (x327000:Int) (x327001:Int) (x327002:ByteArray) (x327003:List (S99)) (x327004:ByteArray) (x327005:Int):impl_TreeOk.L1 x3 x4 x5 x22 x23 x24 x327000 x327001 x327002 x327003 x327004 x327005=if (x4.length:Int) > 0 then (if 0≤(wrap64 ((x4.length:Int) - 1)) then (if (wrap64 ((x4.length:Int) - 1))<(x4.length:Int) then (if (rd x4 (wrap64 ((x4.length:Int) - 1)))=0 then (if (wrap64 ((x4.length:Int) - 1))≤(x4.length:Int) then (impl_TreeOk.L1 x3 (x4.take ((wrap64 ((x4.length:Int) - 1)):Int).toNat) x5 x22 x23 x24 x327000 x327001 x327002 x327003 x327004 x327005) else (none)) else (impl_TreeOk.J4 x3 x4 x5 x22 x23 x24 x327000 x327001 x327002 x327003 x327004 x327005)) else (none)) else (none)) else (impl_TreeOk.J4 x3 x4 x5 x22 x23 x24 x327000 x327001 x327002 x327003 x327004 x327005):=by
 unfold impl_TreeOk.L1
 rw [← val_shift]
 simp only [impl_TreeOk.l1]
 try simp only [val_ite,val_const,val_bind,LeO_self,val_m_impl_TreeOk_l1,val_m_impl_TreeOk_j4,forall_const]
 try rfl
theorem impl_TreeOk.L2_eq (x89:List Int) (x90:Int) (x91:Int):impl_TreeOk.L2 x89 x90 x91=if x91<x90 then (if 0≤x91 then (if x91<(x89.length:Int) then (if (rd x89 x91)=0 then (impl_TreeOk.L2 x89 x90 (wrap64 (x91+1))) else (some false)) else (none)) else (none)) else (some true):=by
 unfold impl_TreeOk.L2
 rw [← val_shift]
 simp only [impl_TreeOk.l2]
 try simp only [val_ite,val_const,val_bind,LeO_self,val_m_impl_TreeOk_l2,forall_const]
 try rfl
theorem val_m_impl_TreeOk_j0 (y0:Bool) (y1:List (S59)) (k:Nat):LeO (impl_TreeOk.j0 k y0 y1) (impl_TreeOk.j0 (k+1) y0 y1):=((impl_TreeOk.mono_l k).1) y0 y1
theorem impl_TreeOk.F_eq (l0_0:List (S59)):impl_TreeOk.F l0_0=if (l0_0.length:Int)=0 then (impl_TreeOk.J0 true l0_0) else (impl_TreeOk.J0 (decide ((l0_0.length:Int) > 4000)) l0_0):=by
 unfold impl_TreeOk.F
 simp only [impl_TreeOk.f]
 try simp only [val_ite,val_const,val_bind,LeO_self,val_m_impl_TreeOk_j0,forall_const]
 try rfl
theorem impl_RangeText.F_eq (l0_0:List (S59)) (a0:Int) (a1:Int) (b0:Int) (b1:Int):impl_RangeText.F l0_0 a0 a1 b0 b1=(impl_TreeOk.F l0_0).bind fun t1=>(if t1=true then (rangeR l0_0 a0 a1 b0 b1) else (some (⟨#[]⟩:ByteArray))):=by
 unfold impl_RangeText.F
 simp only [impl_RangeText.f]
 try simp only [val_ite,val_const,val_bind,LeO_self,impl_TreeOk.mono,forall_const]
 try rfl
theorem laws_FnExactRangeText.F_eq (l0_0:List (S64)) (a1_0:Int) (a1_1:Int) (a1_2:Int) (a1_3:Int):laws_FnExactRangeText.F l0_0 a1_0 a1_1 a1_2 a1_3=(laws_szTree.F l0_0 1048576).bind fun t372=>(if t372<0 then (some true) else ((laws_toTree.F l0_0).bind fun t373=>((laws_toRange.f a1_0 a1_1 a1_2 a1_3).bind fun bt376=>((spec_RangeText.F t373 bt376.1 bt376.2.1 bt376.2.2.1 bt376.2.2.2).bind fun t380=>((laws_toTree.F l0_0).bind fun t381=>((laws_toRange.f a1_0 a1_1 a1_2 a1_3).bind fun bt385=>((impl_RangeText.F t381 bt385.1 bt385.2.1 bt385.2.2.1 bt385.2.2.2).bind fun t389=>(if t389.toList=t380.toList then ((laws_toTree.F l0_0).bind fun t390=>((laws_eqTree.F t381 t390).bind fun t393=>(if t393=true then (some true) else (none)))) else (none))))))))):=by
 unfold laws_FnExactRangeText.F
 simp only [laws_FnExactRangeText.f]
 try simp only [val_ite,val_const,val_bind,LeO_self,laws_szTree.mono,laws_toTree.mono,spec_RangeText.mono,impl_RangeText.mono,laws_eqTree.mono,forall_const]
 try rfl
end Go.Proofs.Ytbogfagafdokeaa.QFnExactRangeText
