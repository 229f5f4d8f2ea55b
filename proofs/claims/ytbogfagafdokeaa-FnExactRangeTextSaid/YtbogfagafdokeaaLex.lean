/- slices.Reverse and slices.Compare as what they compute; the walked less as a plain answer. -/
import Derived.Test.YtbogfagafdokeaaLessW
import Derived.Test.YtbogfagafdokeaaLoops
namespace Go.Proofs.Ytbogfagafdokeaa.QFnExactRangeText
open Go Go.RowKit Go.Proofs.YtbogfagafdokeaaV.PrintWords Go.Proofs.YtbogfagafdokeaaV.PrintLast Go.Proofs.YtbogfagafdokeaaV.PrintMore Go.Proofs.Ytbogfagafdokeaa.Val Go.Proofs.Ytbogfagafdokeaa.TreeIx Go.Proofs.Ytbogfagafdokeaa.MapObj
set_option linter.unusedVariables false
set_option linter.unusedSimpArgs false
def revAt (xs:List Int) (t:Nat):List Int:=(List.range xs.length).map fun k=>if k<t ∨ xs.length - 1 - t<k then rd xs ((xs.length - 1 - k:Nat):Int) else rd xs (k:Int)
theorem revAt_len (xs:List Int) (t:Nat):(revAt xs t).length=xs.length:=by unfold revAt;simp
theorem revAt_rd (xs:List Int) (t k:Nat) (h:k<xs.length):rd (revAt xs t) (k:Nat)=if k<t ∨ xs.length - 1 - t<k then rd xs ((xs.length - 1 - k:Nat):Int) else rd xs (k:Int):=by
 unfold revAt
 unfold rd
 rw [Int.toNat_natCast,List.getD_eq_getElem?_getD,List.getElem?_map,List.getElem?_range h]
 rfl
theorem rd_ext {a b:List Int} (hl:a.length=b.length) (h:∀ k:Nat,k<a.length→rd a (k:Nat)=rd b (k:Nat)):a=b:=by
 apply List.ext_getElem hl
 intro k h1 h2
 have:=h k h1
 unfold rd at this
 rw [Int.toNat_natCast,List.getD_eq_getElem?_getD,List.getD_eq_getElem?_getD,List.getElem?_eq_getElem h1,List.getElem?_eq_getElem h2] at this
 exact this
theorem rd_set (xs:List Int) (i k:Nat) (v:Int) (hi:i<xs.length):rd (xs.set i v) (k:Nat)=if k=i then v else rd xs (k:Nat):=by
 unfold rd
 rw [Int.toNat_natCast,List.getD_eq_getElem?_getD,List.getD_eq_getElem?_getD,List.getElem?_set]
 by_cases e:k=i
 ·rw [if_pos e,if_pos e.symm,if_pos hi]
  rfl
 ·rw [if_neg e,if_neg (fun x=>e x.symm)]
theorem rev_loop (xs:List Int) (hx:xs.length≤1000000):∀ (d t:Nat),xs.length≤2*t+2*d+1→2*t≤xs.length+1→slices_Reverse_int_int.l0 (d+1) (revAt xs t) (t:Nat) ((xs.length:Int) - 1 - t)=some xs.reverse
 |d,t,hd,ht=>by
  unfold slices_Reverse_int_int.l0
  rw [revAt_len]
  by_cases c:(t:Int)<(xs.length:Int) - 1 - t
  ·rw [if_pos c,if_pos (by omega),if_pos (by omega),if_pos (by omega),if_pos (by omega),w64 (by omega) (by omega),w64 (by omega) (by omega)]
   have e:((revAt xs t).set (t:Int).toNat (rd (revAt xs t) ((xs.length:Int) - 1 - t))).set ((xs.length:Int) - 1 - t).toNat (rd (revAt xs t) (t:Nat))=revAt xs (t+1):=by
    have e1:((xs.length:Int) - 1 - t)=((xs.length - 1 - t:Nat):Int):=by omega
    rw [e1,Int.toNat_natCast,Int.toNat_natCast]
    apply rd_ext
    ·rw [List.length_set,List.length_set,revAt_len,revAt_len]
    ·intro k hk
     rw [List.length_set,List.length_set,revAt_len] at hk
     rw [rd_set _ _ _ _ (by rw [List.length_set,revAt_len];omega),rd_set _ _ _ _ (by rw [revAt_len];omega),revAt_rd _ _ _ (by omega),revAt_rd _ _ _ (by omega),revAt_rd _ _ _ hk,revAt_rd _ _ _ hk]
     by_cases k1:k=xs.length - 1 - t
     ·rw [if_pos k1,if_neg (by omega),if_pos (by omega)]
      congr 1
      omega
     ·rw [if_neg k1]
      by_cases k2:k=t
      ·rw [if_pos k2,if_neg (by omega),if_pos (by omega)]
       congr 1
       omega
      ·rw [if_neg k2]
       by_cases k3:k<t ∨ xs.length - 1 - t<k
       ·rw [if_pos k3,if_pos (by omega)]
       ·rw [if_neg k3,if_neg (by omega)]
   rw [e,show (t:Int)+1=((t+1:Nat):Int) by omega,show (xs.length:Int) - 1 - t - 1=(xs.length:Int) - 1 - ((t+1:Nat):Int) by omega]
   cases d with
   |zero=>omega
   |succ d=>exact rev_loop xs hx d (t+1) (by omega) (by omega)
  ·rw [if_neg c]
   congr 1
   apply rd_ext
   ·rw [revAt_len,List.length_reverse]
   ·intro k hk
    rw [revAt_len] at hk
    rw [revAt_rd _ _ _ hk]
    have hr:rd xs.reverse (k:Nat)=rd xs ((xs.length - 1 - k:Nat):Int):=by
     unfold rd
     rw [Int.toNat_natCast,Int.toNat_natCast,List.getD_eq_getElem?_getD,List.getD_eq_getElem?_getD,List.getElem?_reverse hk]
    rw [hr]
    by_cases k3:k<t ∨ xs.length - 1 - t<k
    ·rw [if_pos k3]
    ·rw [if_neg k3]
     congr 1
     omega
theorem rev_k (xs:List Int) (hx:xs.length≤1000000):∃ k,slices_Reverse_int_int.f k xs=some xs.reverse:=by
 refine ⟨xs.length+1,?_⟩
 unfold slices_Reverse_int_int.f
 rw [w64 (by omega) (by omega)]
 have e:revAt xs 0=xs:=by
  apply rd_ext (revAt_len _ _)
  intro k hk
  rw [revAt_len] at hk
  rw [revAt_rd _ _ _ hk,if_neg (by omega)]
 have:=rev_loop xs hx xs.length 0 (by omega) (by omega)
 rw [e] at this
 rw [show ((0:Nat):Int)=0 from rfl,Int.sub_zero] at this
 exact this
def cmpI (x y:Int):Int:=if x<y then -1 else if x > y then 1 else 0
theorem cmp_is (x y:Int):cmp_Compare_int.f x y=some (cmpI x y):=by
 unfold cmp_Compare_int.f cmp_isNaN_int.f cmpI
 simp only [bne_self_eq_false,Option.bind_some,Bool.false_eq_true,if_false]
 split
 ·rfl
 ·split<;>rfl
def lexI:List Int→List Int→Int
 |[],[]=>0
 |[],_::_=>-1
 |_::_,[]=>1
 |x::xs,y::ys=>if cmpI x y=0 then lexI xs ys else cmpI x y
theorem rd_drop (xs:List Int) (i:Nat) (h:i<xs.length):xs.drop i=rd xs (i:Nat)::xs.drop (i+1):=by
 rw [List.drop_eq_getElem_cons h]
 congr 1
 unfold rd
 rw [Int.toNat_natCast,List.getD_eq_getElem?_getD,List.getElem?_eq_getElem h]
 rfl
theorem cmp_loop (xs ys:List Int) (hx:xs.length≤1000000):∀ (d i:Nat),i+d=xs.length→i≤ys.length→slices_Compare_int_int.l0 (d+1) xs ys xs (xs.length:Int) (i:Nat)=some (lexI (xs.drop i) (ys.drop i))
 |0,i,hd,hi=>by
  have e:xs.drop i=[]:=List.drop_eq_nil_of_le (by omega)
  unfold slices_Compare_int_int.l0
  rw [if_neg (by omega),e]
  by_cases c:i<ys.length
  ·rw [if_pos (by omega),rd_drop ys i c]
   rfl
  ·rw [if_neg (by omega),List.drop_eq_nil_of_le (by omega)]
   rfl
 |d+1,i,hd,hi=>by
  unfold slices_Compare_int_int.l0
  rw [if_pos (by omega),if_pos (by omega),if_pos (by omega),rd_drop xs i (by omega)]
  by_cases c:i<ys.length
  ·rw [if_neg (by omega),if_pos (by omega),cmp_is,Option.bind_some,rd_drop ys i c,w64 (by omega) (by omega),show (i:Int)+1=((i+1:Nat):Int) by omega,cmp_loop xs ys hx d (i+1) (by omega) (by omega)]
   show _=some (if _ then _ else _)
   split<;>rfl
  ·rw [if_pos (by omega),(List.drop_eq_nil_of_le (by omega):ys.drop i=[])]
   rfl
theorem cmp_k (xs ys:List Int) (hx:xs.length≤1000000):∃ k,slices_Compare_int_int.f k xs ys=some (lexI xs ys):=by
 refine ⟨xs.length+1,?_⟩
 unfold slices_Compare_int_int.f
 exact cmp_loop xs ys hx xs.length 0 (by omega) (by omega)
noncomputable def wayW (l:List S59) (id at':Int):List Int:=match atI l id with
 |none=>[]
 |some j=>(wrap64 (2*at')::chain l j).reverse
noncomputable def lessB (l:List S59) (a0 a1 b0 b1:Int):Bool:=decide (lexI (wayW l a0 a1) (wayW l b0 b1)<0)
theorem less_b (wb W:World) (l:List S59) (va:Nat→Value) (G:Gh) (gg gm:Nat) (a0 a1 b0 b1:Int) (R:Right l) (hja:(atI l a0).isSome=true) (hjb:(atI l b0).isSome=true) (hG:Gard wb W l va G gg gm) (hwb:wb.heap.size≤W.heap.size) :
  Calls Try.prog 21 #[.pointer (some ⟨gg,0,none⟩),.agg #[.int .i64 a0,.int .i64 a1],.agg #[.int .i64 b0,.int .i64 b1]] W fun e w'=>e=.returned (.bool (lessB l a0 a1 b0 b1))∧Below W.heap.size W w':=by
 obtain ⟨i,hi⟩:=Option.isSome_iff_exists.1 hja
 obtain ⟨j,hj⟩:=Option.isSome_iff_exists.1 hjb
 have hl:=R.len4
 have i1:=(at__lt hi).1
 have j1:=(at__lt hj).1
 have i2:=chain_len l i
 have j2:=chain_len l j
 obtain ⟨k1,h1⟩:=rev_k (wrap64 (2*a1)::chain l i) (by simp only [List.length_cons];omega)
 obtain ⟨k2,h2⟩:=rev_k (wrap64 (2*b1)::chain l j) (by simp only [List.length_cons];omega)
 obtain ⟨k3,h3⟩:=cmp_k (wrap64 (2*a1)::chain l i).reverse (wrap64 (2*b1)::chain l j).reverse (by rw [List.length_reverse];simp only [List.length_cons];omega)
 have e:lessB l a0 a1 b0 b1=decide (lexI (wrap64 (2*a1)::chain l i).reverse (wrap64 (2*b1)::chain l j).reverse<0):=by
  unfold lessB wayW
  rw [hi,hj]
 rw [e]
 exact less_calls k1 k2 k3 wb W l va G gg gm a0 a1 b0 b1 i j _ _ _ R hi hj hG hwb h1 h2 h3
end Go.Proofs.Ytbogfagafdokeaa.QFnExactRangeText
