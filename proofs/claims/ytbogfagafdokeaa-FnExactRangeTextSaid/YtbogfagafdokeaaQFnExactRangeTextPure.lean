import Derived.Test.YtbogfagafdokeaaRangeP
namespace Go.Proofs.Ytbogfagafdokeaa.QFnExactRangeText
open Go Go.RowKit Go.Proofs.YtbogfagafdokeaaV.PrintWords Go.Proofs.YtbogfagafdokeaaV.PrintLast Go.Proofs.YtbogfagafdokeaaV.PrintMore Go.Proofs.Ytbogfagafdokeaa.Val Go.Proofs.Ytbogfagafdokeaa.TreeIx
set_option linter.unusedVariables false
set_option linter.unusedSimpArgs false
theorem spot_spec (l:List S59) (R:Right l) (id at':Int) (h:spec_TreeOk.F l=some true):spec_SpotOk.F l id at'=some (spotB l id at'):=by
 rw [spec_SpotOk.F_eq,h,Option.bind_some,if_pos rfl,l4At_is l R,Option.bind_some]
 cases ha:atI l id with
 |none=>
  rw [placeOf_none ha,if_neg (by omega)]
  unfold spotB
  rw [ha]
 |some j=>
  obtain ⟨hj,hid⟩:=at__lt ha
  have hk:(rd_T59 l (j:Nat)).f5=(kdOf l j:Int):=by unfold kdOf;rw [Int.toNat_of_nonneg (R.kids j hj)]
  have hs:spotB l id at'=(decide (0≤at') && decide (at'≤most l j)):=by unfold spotB;rw [ha]
  rw [placeOf_some ha,hs,if_pos (by omega)]
  by_cases h0:at'≥0
  ·rw [if_pos h0,if_pos (by omega),if_pos (by omega)]
   unfold spec_l5Most.f most
   rw [decide_eq_true (show 0≤at' from h0),Bool.true_and]
   by_cases h3:(rd_T59 l (j:Nat)).f1=3
   ·rw [if_pos h3,if_pos h3]
    rfl
   ·rw [if_neg h3,if_neg h3,hk]
    rfl
  ·rw [if_neg h0,decide_eq_false (show ¬ 0≤at' from h0)]
   rfl
theorem text_small (l:List S64) (hb:bulk_NodeS l≤1048576) (j:Nat):(rd_T59 (l.map of_Node) (j:Nat)).f4.size≤1048576:=by
 have hm:=mem_Node hb
 unfold rd_T59
 rw [Int.toNat_natCast,List.getD_eq_getElem?_getD,List.getElem?_map]
 cases e:l[j]? with
 |none=>exact Nat.zero_le _
 |some x=>
  have h1:=hm.2 x (List.mem_of_getElem? e)
  unfold bulk_Node at h1
  show x.f4.size≤_
  omega
theorem size_bulk (l:List S64):∀ d:Nat,d≤l.length→sizeN (l.map of_Node) d≤((l.take d).map bulk_Node).sum
 |0,_=>Nat.zero_le _
 |d+1,hd=>by
  have ih:=size_bulk l d (by omega)
  have hg:rd_T59 (l.map of_Node) (d:Nat)=of_Node l[d]:=by
   unfold rd_T59
   rw [Int.toNat_natCast,List.getD_eq_getElem?_getD,List.getElem?_map,List.getElem?_eq_getElem (by omega)]
   rfl
  show sizeN (l.map of_Node) d+(rd_T59 (l.map of_Node) (d:Nat)).f4.size≤_
  rw [hg,List.take_succ_eq_append_getElem (by omega),List.map_append,List.sum_append]
  have h2:(of_Node l[d]).f4.size≤bulk_Node l[d]:=by
   show l[d].f4.size≤_
   unfold bulk_Node
   omega
  have h3:([l[d]].map bulk_Node).sum=bulk_Node l[d]:=by simp
  omega
theorem FnExactRangeText_pure (l:List S64) (r:(Int×Int)×(Int×Int)) (h:l.length≤maxLen∧∀ x ∈ l,wf_Node x) (hr0:((Lit.int .i64 r.1.1).wf=true∧(Lit.int .i64 r.1.2).wf=true)∧((Lit.int .i64 r.2.1).wf=true∧(Lit.int .i64 r.2.2).wf=true)):∃ k,laws_FnExactRangeText.f k l r.1.1 r.1.2 r.2.1 r.2.2=some true:=by
 obtain ⟨⟨a0,a1⟩,⟨b0,b1⟩⟩:=r
 show ∃ k,laws_FnExactRangeText.f k l a0 a1 b0 b1=some true
 apply val_rounds (g:=fun k=>laws_FnExactRangeText.f k l a0 a1 b0 b1)
 show laws_FnExactRangeText.F l a0 a1 b0 b1=some true
 rw [laws_FnExactRangeText.F_eq]
 obtain ⟨r,e,_,hr⟩:=sz_Tree l h 1048576 (by omega) (by omega)
 rw [e,Option.bind_some]
 by_cases c:r<0
 ·rw [if_pos c]
 ·rw [if_neg c]
  have hb':=hr (by omega)
  have hl:bulk_NodeS l≤1048576:=by omega
  have S:=tree_small l h hl
  have hz:=text_small l hl
  have hsz:sizeN (l.map of_Node) (l.map of_Node).length≤1048576:=by
   have h1:=size_bulk l l.length (Nat.le_refl _)
   rw [List.take_length] at h1
   rw [List.length_map]
   unfold bulk_NodeS at hl
   omega
  obtain ⟨q,h1,h2,h3⟩:=tree_right (l.map of_Node) S
  have key:∃ t,spec_RangeText.F (l.map of_Node) a0 a1 b0 b1=some t∧impl_RangeText.F (l.map of_Node) a0 a1 b0 b1=some t:=by
   rw [impl_RangeText.F_eq,spec_RangeText.F_eq,spec_l5RangeOk.F_eq,h2,Option.bind_some]
   cases q with
   |false=>
    refine ⟨_,?_,if_neg (by simp)⟩
    rw [spec_SpotOk.F_eq,h1,Option.bind_some,if_neg (by simp),Option.bind_some,if_neg (by simp),Option.bind_some,if_neg (by simp)]
   |true=>
    have R:=(h3 rfl).1
    have hnode:=(h3 rfl).2
    have hleaf:∀ i:Nat,i<(l.map of_Node).length→(rd_T59 (l.map of_Node) (i:Nat)).f1=3→kdOf (l.map of_Node) i=0:=by
     intro i hi ht
     have hn:=(hnode i hi).2.2.2
     unfold kdOf
     rcases hn with hn|hn|hn|hn|hn
     ·omega
     ·omega
     ·rw [hn.2.2.2.2];rfl
     ·omega
     ·omega
    have hRR:rangeR (l.map of_Node) a0 a1 b0 b1=some (if rangeB (l.map of_Node) a0 a1 b0 b1=true then rangeN (l.map of_Node) a0 a1 b0 b1 (l.map of_Node).length else (⟨#[]⟩:ByteArray)):=by unfold rangeR;exact if_pos ⟨R,hsz⟩
    rw [if_pos (show true=true from rfl),hRR,spot_spec _ R a0 a1 h1,Option.bind_some]
    by_cases ca:spotB (l.map of_Node) a0 a1=true
    ·rw [if_pos ca,spot_spec _ R b0 b1 h1,Option.bind_some]
     by_cases cb:spotB (l.map of_Node) b0 b1=true
     ·rw [if_pos cb]
      obtain ⟨ja,Ea,j1,j2,j3,j4,j5,j6,j7⟩:=spot_edge _ R hz ca
      obtain ⟨jb,Eb,k1,k2,k3,k4,k5,k6,k7⟩:=spot_edge _ R hz cb
      rw [less_spec _ R k1 j1 k4 k5 j4 j5,Option.bind_some,Option.bind_some]
      have hB:rangeB (l.map of_Node) a0 a1 b0 b1=!(lessB (l.map of_Node) b0 b1 a0 a1):=by unfold rangeB;rw [if_pos ca,if_pos cb]
      rw [hB]
      by_cases cl:(!(lessB (l.map of_Node) b0 b1 a0 a1))=true
      ·rw [if_pos cl,if_pos cl,j7,Option.bind_some,k7,Option.bind_some]
       exact ⟨_,range_spec R hleaf hz hsz ca cb j1 k1 j4 j5 k4 k5 j6 k6 j3 k3,rfl⟩
      ·rw [if_neg cl,if_neg cl]
       exact ⟨_,rfl,rfl⟩
     ·have hB:rangeB (l.map of_Node) a0 a1 b0 b1=false:=by unfold rangeB;rw [if_pos ca,if_neg cb]
      rw [if_neg cb,Option.bind_some,if_neg (by simp),hB,if_neg (by simp)]
      exact ⟨_,rfl,rfl⟩
    ·have hB:rangeB (l.map of_Node) a0 a1 b0 b1=false:=by unfold rangeB;rw [if_neg ca]
     rw [if_neg ca,Option.bind_some,if_neg (by simp),hB,if_neg (by simp)]
     exact ⟨_,rfl,rfl⟩
  obtain ⟨t,k1,k2⟩:=key
  unfold laws_toRange.f laws_toSpot.f
  simp only [to_Tree l hl,Option.bind_some,k1,k2,eq_Tree l hl,if_true]
end Go.Proofs.Ytbogfagafdokeaa.QFnExactRangeText
