import Derived.Test.YtbogfagafdokeaaLexP
import Derived.Test.YtbogfagafdokeaaBytes
namespace Go.Proofs.Ytbogfagafdokeaa.QFnExactRangeText
open Go Go.RowKit Go.Proofs.YtbogfagafdokeaaV.PrintWords Go.Proofs.YtbogfagafdokeaaV.PrintLast Go.Proofs.YtbogfagafdokeaaV.PrintMore Go.Proofs.Ytbogfagafdokeaa.Val Go.Proofs.Ytbogfagafdokeaa.TreeIx
set_option linter.unusedVariables false
set_option linter.unusedSimpArgs false
theorem place_loop (l:List S59) (R:Right l):∀ (q k E:Nat),Fits (kdOf l) l.length k q E→spec_l5Place.L0 l (q:Nat) (k:Nat)=some (E:Int)
 |0,k,E,h=>by
  rw [spec_l5Place.L0_eq,if_neg (by omega),h.zero]
 |q+1,k,E,h=>by
  obtain ⟨h1,m,h2,h3⟩:=h.open_
  have hl:=R.len4
  have hc:=h.count
  have hc2:=h.le
  rw [spec_l5Place.L0_eq,if_pos (by omega),skip_is R (Fits.mk1 h1 h2),Option.bind_some,w64 (by omega) (by omega),show ((q+1:Nat):Int) - 1=(q:Int) by omega]
  exact place_loop l R q m E h3
theorem spot_edge (l:List S59) (R:Right l) (hz:∀ j:Nat,(rd_T59 l (j:Nat)).f4.size≤1048576) {id at':Int} (h:spotB l id at'=true):∃ j E,atI l id=some j∧j<l.length∧E≤l.length∧0≤at'∧at'≤1048576∧Edge l j at' E∧spec_l5Edge.F l id at'=some ((E:Int),if (rd_T59 l (j:Nat)).f1=3 then at' else -1):=by
 unfold spotB at h
 cases ha:atI l id with
 |none=>
  rw [ha] at h
  cases h
 |some j=>
  obtain ⟨hj,hid⟩:=at__lt ha
  rw [ha] at h
  have h:(decide (0≤at') && decide (at'≤most l j))=true:=h
  rw [Bool.and_eq_true,decide_eq_true_iff,decide_eq_true_iff] at h
  obtain ⟨h0,h2⟩:=h
  have hzj:=hz j
  obtain ⟨e,fe,_⟩:=R.fits.inner (Nat.zero_le j) hj
  have c1:=fe.count
  have c2:=fe.le
  have hl:=R.len4
  rw [spec_l5Edge.F_eq,l4At_is l R,Option.bind_some,placeOf_some ha,if_pos (by omega),if_pos (by omega)]
  unfold most at h2
  by_cases t:(rd_T59 l (j:Nat)).f1=3
  ·rw [if_pos t] at h2
   refine ⟨j,j,rfl,hj,by omega,h0,by omega,⟨fun _=>rfl,fun n=>absurd t n⟩,?_⟩
   rw [if_pos t,if_pos t]
  ·rw [if_neg t] at h2
   obtain ⟨q,rfl⟩:∃ q:Nat,at'=q:=⟨at'.toNat,by omega⟩
   obtain ⟨E,f1,f2⟩:=(show Fits (kdOf l) l.length (j+1) (q+(kdOf l j - q)) e from by rw [show q+(kdOf l j - q)=kdOf l j by omega];exact fe).split
   refine ⟨j,E,rfl,hj,f1.le.2,h0,by omega,⟨fun n=>absurd n t,fun _=>⟨q,rfl,by omega,f1⟩⟩,?_⟩
   rw [if_neg t,if_neg t,spec_l5Place.F_eq,w64 (by omega) (by omega),show (j:Int)+1=((j+1:Nat):Int) by omega,place_loop l R q (j+1) E f1]
   rfl
variable {l:List S59}
theorem from_is (R:Right l) (hleaf:∀ i:Nat,i<l.length→(rd_T59 l (i:Nat)).f1=3→kdOf l i=0) (hz:∀ j:Nat,(rd_T59 l (j:Nat)).f4.size≤1048576) {a0 a1:Int} {j E k:Nat} (ha:atI l a0=some j) (h0:0≤a1) (h1:a1≤1048576) (hE:Edge l j a1 E) (hk:k<l.length) (h3:(rd_T59 l (k:Nat)).f1=3) :
  fromV l a0 a1 k=if k<E then ((rd_T59 l (k:Nat)).f4.size:Int) else if (rd_T59 l (j:Nat)).f1=3∧k=E then a1 else 0:=by
 obtain ⟨hj,hid⟩:=at__lt ha
 have hzk:=hz k
 unfold fromV
 by_cases c:a0=(rd_T59 l (k:Nat)).f0
 ·have e:=at_is R hk
  rw [← c,ha] at e
  obtain rfl:=Option.some.inj e
  have:=hE.text h3
  rw [if_pos c,if_neg (by omega),if_pos ⟨h3,this.symm⟩]
 ·have hne:k≠j:=fun e=>c (by rw [e];exact hid.symm)
  rw [if_neg c]
  unfold lessB
  rw [wayW_is l (at_is R hk) (by omega) (by omega),wayW_is l ha h0 h1]
  rcases edge_order l R hj hk hne h3 hleaf hE ((rd_T59 l (k:Nat)).f4.size:Int) with ⟨x,y⟩|⟨x,y⟩
  ·rw [y.1,if_pos (by decide),if_pos x]
  ·rw [y.2,if_neg (by decide),if_neg (by omega),if_neg (fun z=>hne (by rw [z.2];exact hE.text z.1))]
theorem to_is (R:Right l) (hleaf:∀ i:Nat,i<l.length→(rd_T59 l (i:Nat)).f1=3→kdOf l i=0) {b0 b1:Int} {j E k:Nat} (hb:atI l b0=some j) (h0:0≤b1) (h1:b1≤1048576) (hE:Edge l j b1 E) (hk:k<l.length) (h3:(rd_T59 l (k:Nat)).f1=3) :
  toV l b0 b1 k=if k<E then ((rd_T59 l (k:Nat)).f4.size:Int) else if (rd_T59 l (j:Nat)).f1=3∧k=E then b1 else 0:=by
 obtain ⟨hj,hid⟩:=at__lt hb
 unfold toV
 by_cases c:b0=(rd_T59 l (k:Nat)).f0
 ·have e:=at_is R hk
  rw [← c,hb] at e
  obtain rfl:=Option.some.inj e
  have:=hE.text h3
  rw [if_pos c,if_neg (by omega),if_pos ⟨h3,this.symm⟩]
 ·have hne:k≠j:=fun e=>c (by rw [e];exact hid.symm)
  rw [if_neg c]
  unfold lessB
  rw [wayW_is l (at_is R hk) (by omega) (by omega),wayW_is l hb h0 h1]
  rcases edge_order l R hj hk hne h3 hleaf hE 0 with ⟨x,y⟩|⟨x,y⟩
  ·rw [y.2,if_neg (by decide),if_pos x]
  ·rw [y.1,if_pos (by decide),if_neg (by omega),if_neg (fun z=>hne (by rw [z.2];exact hE.text z.1))]
theorem bytesOf_append (a b:ByteArray):bytesOf (a++b)=bytesOf a++bytesOf b:=by
 unfold bytesOf
 rw [ByteArray.data_append,Array.toList_append,List.map_append]
theorem strOfNums_bytesOf (s:ByteArray):strOfNums (bytesOf s)=s:=by
 unfold strOfNums bytesOf
 rw [List.map_map]
 have h:s.data.toList.map ((fun n:Int=>UInt8.ofNat n.toNat) ∘ fun b:UInt8=>(b.toNat:Int))=s.data.toList:=by
  have:∀ b:UInt8,((fun n:Int=>UInt8.ofNat n.toNat) ∘ fun b:UInt8=>(b.toNat:Int)) b=b:=by
   intro b
   simp
  rw [List.map_congr_left (fun b _=>this b),List.map_id']
 rw [h]
theorem piece_none (a0 a1 b0 b1:Int) (k:Nat) (h:(rd_T59 l (k:Nat)).f1=3→¬ fromV l a0 a1 k<toV l b0 b1 k):pieceR l a0 a1 b0 b1 k=(⟨#[]⟩:ByteArray):=by
 unfold pieceR
 by_cases t:(rd_T59 l (k:Nat)).f1=3
 ·rw [if_pos t,if_neg (h t)]
 ·rw [if_neg t]
theorem range_same (a0 a1 b0 b1:Int) (k:Nat) (h:pieceR l a0 a1 b0 b1 k=(⟨#[]⟩:ByteArray)):rangeN l a0 a1 b0 b1 (k+1)=rangeN l a0 a1 b0 b1 k:=by
 show rangeN l a0 a1 b0 b1 k++pieceR l a0 a1 b0 b1 k=_
 rw [h]
 exact ByteArray.append_empty
theorem range_quiet (a0 a1 b0 b1:Int) {k:Nat}:∀ {m:Nat},k≤m→(∀ i,k≤i→i<m→pieceR l a0 a1 b0 b1 i=(⟨#[]⟩:ByteArray))→rangeN l a0 a1 b0 b1 m=rangeN l a0 a1 b0 b1 k
 |0,h,_=>by rw [show k=0 by omega]
 |m+1,h,hp=>by
  by_cases c:k=m+1
  ·rw [c]
  ·rw [range_same _ _ _ _ _ (hp m (by omega) (by omega))]
   exact range_quiet a0 a1 b0 b1 (by omega) (fun i h1 h2=>hp i h1 (by omega))
theorem range_loop (R:Right l) (hleaf:∀ i:Nat,i<l.length→(rd_T59 l (i:Nat)).f1=3→kdOf l i=0) (hz:∀ j:Nat,(rd_T59 l (j:Nat)).f4.size≤1048576) (hsz:sizeN l l.length≤1048576) {a0 a1 b0 b1:Int} {ja jb Ea Eb:Nat} (sa:spotB l a0 a1=true) (sb:spotB l b0 b1=true)
  (ha:atI l a0=some ja) (hb:atI l b0=some jb) (ha0:0≤a1) (ha1:a1≤1048576) (hb0:0≤b1) (hb1:b1≤1048576) (eA:Edge l ja a1 Ea) (eB:Edge l jb b1 Eb) (hEb:Eb≤l.length):∀ d k:Nat,k+d=l.length→Ea≤k→
  spec_RangeText.L0 (bytesOf (rangeN l a0 a1 b0 b1 k)) (Ea:Int) (if (rd_T59 l (ja:Nat)).f1=3 then a1 else -1) (Eb:Int) (if (rd_T59 l (jb:Nat)).f1=3 then b1 else -1) (k:Nat) l=some (rangeN l a0 a1 b0 b1 l.length)
 |0,k,hd,hk=>by
  have:k=l.length:=by omega
  subst this
  rw [spec_RangeText.L0_eq,if_neg (by omega),spec_RangeText.J1_eq,if_neg (by simp),strOfNums_bytesOf]
 |d+1,k,hd,hk=>by
  have hl:=R.len4
  have hkn:k<l.length:=by omega
  rw [spec_RangeText.L0_eq,if_pos (by omega),spec_RangeText.J1_eq]
  by_cases c1:(k:Int)≤(Eb:Int)
  ·rw [decide_eq_true c1,if_pos rfl,if_pos (by omega),if_pos (by omega)]
   have w1:wrap64 ((k:Int)+1)=((k+1:Nat):Int):=by rw [w64 (by omega) (by omega)];omega
   have ih:=range_loop R hleaf hz hsz sa sb ha hb ha0 ha1 hb0 hb1 eA eB hEb d (k+1) (by omega) (by omega)
   by_cases t:(rd_T59 l (k:Nat)).f1=3
   ·rw [if_pos t]
    have fv:=from_is R hleaf hz ha ha0 ha1 eA hkn t
    have tv:=to_is R hleaf hb hb0 hb1 eB hkn t
    have bf:=bounds_from sa R hkn t
    have bt:=bounds_to sb R hkn t
    rw [if_neg (by omega)] at fv
    have go:(k=Eb→(rd_T59 l (jb:Nat)).f1=3)→spec_RangeText.J2 (bytesOf (rangeN l a0 a1 b0 b1 k)) (Ea:Int) (if (rd_T59 l (ja:Nat)).f1=3 then a1 else -1) (Eb:Int) (if (rd_T59 l (jb:Nat)).f1=3 then b1 else -1) (k:Nat) false l=some (rangeN l a0 a1 b0 b1 l.length):=by
     intro hx
     have j4:spec_RangeText.J4 (bytesOf (rangeN l a0 a1 b0 b1 k)) (Ea:Int) (if (rd_T59 l (ja:Nat)).f1=3 then a1 else -1) (Eb:Int) (if (rd_T59 l (jb:Nat)).f1=3 then b1 else -1) (k:Nat) (fromV l a0 a1 k) ((rd_T59 l (k:Nat)).f4.size:Int) l=some (rangeN l a0 a1 b0 b1 l.length):=by
      have hT:(if (k:Int)=(Eb:Int) then (if (rd_T59 l (jb:Nat)).f1=3 then b1 else -1) else ((rd_T59 l (k:Nat)).f4.size:Int))=toV l b0 b1 k:=by
       rw [tv]
       by_cases e:k=Eb
       ·rw [if_pos (by omega),if_pos (hx e),if_neg (by omega),if_pos ⟨hx e,e⟩]
       ·rw [if_neg (by omega),if_pos (by omega)]
      have key:(if fromV l a0 a1 k<toV l b0 b1 k then (if (bytesOf (rangeN l a0 a1 b0 b1 k)).length+((rd_T59 l (k:Nat)).f4.extract (fromV l a0 a1 k).toNat (toV l b0 b1 k).toNat).size<140737488355328 then spec_RangeText.L0 (bytesOf (rangeN l a0 a1 b0 b1 k)++bytesOf ((rd_T59 l (k:Nat)).f4.extract (fromV l a0 a1 k).toNat (toV l b0 b1 k).toNat)) (Ea:Int) (if (rd_T59 l (ja:Nat)).f1=3 then a1 else -1) (Eb:Int) (if (rd_T59 l (jb:Nat)).f1=3 then b1 else -1) ((k+1:Nat):Int) l else none) else spec_RangeText.L0 (bytesOf (rangeN l a0 a1 b0 b1 k)) (Ea:Int) (if (rd_T59 l (ja:Nat)).f1=3 then a1 else -1) (Eb:Int) (if (rd_T59 l (jb:Nat)).f1=3 then b1 else -1) ((k+1:Nat):Int) l)=some (rangeN l a0 a1 b0 b1 l.length):=by
       by_cases lt:fromV l a0 a1 k<toV l b0 b1 k
       ·have hp:pieceR l a0 a1 b0 b1 k=(rd_T59 l (k:Nat)).f4.extract (fromV l a0 a1 k).toNat (toV l b0 b1 k).toNat:=by
         unfold pieceR
         rw [if_pos t,if_pos lt]
        have s1:=range_size l a0 a1 b0 b1 k
        have s2:=sizeN_le l (show k≤l.length by omega)
        have s3:=hz k
        rw [if_pos lt,if_pos (by rw [bytesOf_length,ByteArray.size_extract];omega),← bytesOf_append,← hp]
        exact ih
       ·rw [if_neg lt]
        rw [range_same _ _ _ _ k (piece_none _ _ _ _ k (fun _=>lt))] at ih
        exact ih
      rw [spec_RangeText.J4_eq,w1]
      by_cases e:(k:Int)=(Eb:Int)
      ·rw [if_pos e] at hT
       rw [hT] at key
       rw [if_pos e,hT]
       by_cases lt:fromV l a0 a1 k<toV l b0 b1 k
       ·rw [if_pos lt] at key
        rw [if_pos lt,if_pos (by omega),if_pos (by omega),if_pos bf.1,if_pos (by omega),if_pos bt.2]
        exact key
       ·rw [if_neg lt] at key
        rw [if_neg lt]
        exact key
      ·rw [if_neg e] at hT
       rw [if_neg e,hT]
       by_cases lt:fromV l a0 a1 k<toV l b0 b1 k
       ·rw [if_pos lt] at key
        rw [if_pos lt,if_pos (by omega),if_pos (by omega),if_pos bf.1,if_pos (by omega),if_pos (Int.le_refl _)]
        exact key
       ·rw [if_neg lt] at key
        rw [if_neg lt]
        exact key
     rw [spec_RangeText.J2_eq,if_neg (by simp),if_pos (by omega),if_pos (by omega)]
     by_cases e:(k:Int)=(Ea:Int)
     ·rw [if_pos e,spec_RangeText.J3_eq]
      by_cases ta:(rd_T59 l (ja:Nat)).f1=3
      ·rw [if_pos ⟨ta,by omega⟩] at fv
       simp only [if_pos ta] at j4 ⊢
       rw [fv] at j4
       rw [decide_eq_true (show a1≥0 from ha0),if_pos rfl]
       exact j4
      ·rw [if_neg (fun z=>ta z.1)] at fv
       simp only [if_neg ta] at j4 ⊢
       rw [fv] at j4
       rw [decide_eq_false (show ¬ (-1:Int)≥0 by omega),if_neg (by simp)]
       exact j4
     ·rw [if_neg (fun z=>e (by rw [z.2]))] at fv
      rw [if_neg e,spec_RangeText.J3_eq,if_neg (by simp)]
      rw [fv] at j4
      exact j4
    by_cases e:(k:Int)=(Eb:Int)
    ·rw [if_pos e]
     by_cases tb:(rd_T59 l (jb:Nat)).f1=3
     ·have g:=go (fun _=>tb)
      rw [decide_eq_false (by rw [if_pos tb];omega)]
      exact g
     ·rw [decide_eq_true (by rw [if_neg tb];omega),spec_RangeText.J2_eq,if_pos rfl,w1]
      rw [if_neg (by omega),if_neg (fun z=>tb z.1)] at tv
      rw [range_same _ _ _ _ k (piece_none _ _ _ _ k (fun _=>by rw [tv];omega))] at ih
      exact ih
    ·rw [if_neg e]
     exact go (fun x=>absurd (by rw [x]) e)
   ·rw [if_neg t,spec_RangeText.J2_eq,if_pos rfl,w1]
    rw [range_same _ _ _ _ k (piece_none _ _ _ _ k (fun z=>absurd z t))] at ih
    exact ih
  ·rw [decide_eq_false c1,if_neg (by simp),strOfNums_bytesOf]
   congr 1
   refine (range_quiet a0 a1 b0 b1 (by omega) (fun i h1 h2=>piece_none _ _ _ _ i (fun t=>?_))).symm
   have tv:=to_is R hleaf hb hb0 hb1 eB h2 t
   have bf:=bounds_from sa R h2 t
   rw [if_neg (by omega),if_neg (fun z=>by omega)] at tv
   rw [tv]
   omega
theorem range_spec (R:Right l) (hleaf:∀ i:Nat,i<l.length→(rd_T59 l (i:Nat)).f1=3→kdOf l i=0) (hz:∀ j:Nat,(rd_T59 l (j:Nat)).f4.size≤1048576) (hsz:sizeN l l.length≤1048576) {a0 a1 b0 b1:Int} {ja jb Ea Eb:Nat} (sa:spotB l a0 a1=true) (sb:spotB l b0 b1=true)
  (ha:atI l a0=some ja) (hb:atI l b0=some jb) (ha0:0≤a1) (ha1:a1≤1048576) (hb0:0≤b1) (hb1:b1≤1048576) (eA:Edge l ja a1 Ea) (eB:Edge l jb b1 Eb) (hEa:Ea≤l.length) (hEb:Eb≤l.length) :
  spec_RangeText.L0 ([]:List Int) (Ea:Int) (if (rd_T59 l (ja:Nat)).f1=3 then a1 else -1) (Eb:Int) (if (rd_T59 l (jb:Nat)).f1=3 then b1 else -1) (Ea:Int) l=some (rangeN l a0 a1 b0 b1 l.length):=by
 have h:=range_loop R hleaf hz hsz sa sb ha hb ha0 ha1 hb0 hb1 eA eB hEb (l.length - Ea) Ea (by omega) (Nat.le_refl _)
 have e:rangeN l a0 a1 b0 b1 Ea=(⟨#[]⟩:ByteArray):=by
  have:=range_quiet (l:=l) a0 a1 b0 b1 (Nat.zero_le Ea) (fun i h1 h2=>piece_none _ _ _ _ i (fun t=>?_))
  ·exact this
  ·have hi:i<l.length:=by omega
   have fv:=from_is R hleaf hz ha ha0 ha1 eA hi t
   have bt:=bounds_to sb R hi t
   rw [if_pos h2] at fv
   rw [fv]
   omega
 rw [e] at h
 exact h
end Go.Proofs.Ytbogfagafdokeaa.QFnExactRangeText
