import Derived.Test.YtbogfagafdokeaaPathP
import Derived.Test.YtbogfagafdokeaaDiverge
namespace Go.Proofs.Ytbogfagafdokeaa.QFnExactRangeText
open Go Go.RowKit Go.Proofs.YtbogfagafdokeaaV.PrintWords Go.Proofs.YtbogfagafdokeaaV.PrintLast Go.Proofs.YtbogfagafdokeaaV.PrintMore Go.Proofs.Ytbogfagafdokeaa.Val Go.Proofs.Ytbogfagafdokeaa.TreeIx
set_option linter.unusedVariables false
set_option linter.unusedSimpArgs false
def wayX (A:List Int) (a:Int):List Int:=A++[a]
def wayI (A:List Int) (a:Int):List Int:=(A.map fun x=>2*x+1)++[2*a]
theorem wayX_len (A:List Int) (a:Int):(wayX A a).length=A.length+1:=by simp [wayX]
theorem wayI_len (A:List Int) (a:Int):(wayI A a).length=A.length+1:=by simp [wayI]
theorem way_last (A:List Int) (a:Int):rd (wayI A a) (A.length:Nat)=2*rd (wayX A a) (A.length:Nat):=by
 unfold wayI wayX rd
 simp [List.getD_eq_getElem?_getD]
theorem way_at (A:List Int) (a:Int) (i:Nat) (h:i<A.length):rd (wayI A a) (i:Nat)=2*rd (wayX A a) (i:Nat)+1:=by
 unfold wayI wayX rd
 rw [Int.toNat_natCast,List.getD_eq_getElem?_getD,List.getD_eq_getElem?_getD,List.getElem?_append_left (by rw [List.length_map];exact h),List.getElem?_append_left h,List.getElem?_map,List.getElem?_eq_getElem h]
 rfl
theorem less_step (A B:List Int) (a b:Int) (hA:A.length≤100000) (hB:B.length≤100000) (i:Nat) (h1:i≤A.length) (h2:i≤B.length) :
  spec_l5Less.L0 (wayX A a) (wayX B b) (i:Nat)=if i=A.length then (if i=B.length then some (decide (rd (wayX A a) (i:Nat)<rd (wayX B b) (i:Nat))) else some (decide (rd (wayX A a) (i:Nat)≤rd (wayX B b) (i:Nat)))) else if rd (wayX A a) (i:Nat)=rd (wayX B b) (i:Nat) then (if i=B.length then some false else spec_l5Less.L0 (wayX A a) (wayX B b) ((i+1:Nat):Int)) else some (decide (rd (wayX A a) (i:Nat)<rd (wayX B b) (i:Nat))):=by
 have w1:wrap64 (((A.length+1:Nat):Int) - 1)=(A.length:Int):=by rw [w64 (by omega) (by omega)];omega
 have w2:wrap64 (((B.length+1:Nat):Int) - 1)=(B.length:Int):=by rw [w64 (by omega) (by omega)];omega
 have w3:wrap64 ((i:Int)+1)=((i+1:Nat):Int):=by rw [w64 (by omega) (by omega)];omega
 rw [spec_l5Less.L0_eq,wayX_len,wayX_len,if_pos (by omega),decide_eq_true (by omega),spec_l5Less.J1_eq,if_pos rfl,wayX_len,wayX_len,w1,w2]
 simp only [spec_l5Less.J2_eq,wayX_len,w3,if_pos (show (0:Int)≤(i:Int) by omega),if_pos (show (i:Int)<((A.length+1:Nat):Int) by omega),if_pos (show (i:Int)<((B.length+1:Nat):Int) by omega)]
 by_cases cA:i=A.length
 ·rw [if_pos (show (i:Int)=(A.length:Int) by omega),show ((i:Int)==(A.length:Int))=true from beq_iff_eq.2 (by omega),if_pos (c:=i=A.length) cA]
  by_cases cB:i=B.length
  ·rw [show ((i:Int)==(B.length:Int))=true from beq_iff_eq.2 (by omega),if_pos rfl,if_pos (c:=i=B.length) cB]
  ·rw [show ((i:Int)==(B.length:Int))=false from beq_eq_false_iff_ne.2 (by omega),if_neg (c:=false=true) (by simp),if_pos rfl,if_neg (c:=i=B.length) cB]
 ·rw [if_neg (show ¬ (i:Int)=(A.length:Int) by omega),show ((i:Int)==(A.length:Int))=false from beq_eq_false_iff_ne.2 (by omega),if_neg (c:=i=A.length) cA,if_neg (c:=false=true) (by simp),if_neg (c:=false=true) (by simp)]
  by_cases cB:i=B.length
  ·rw [show ((i:Int)==(B.length:Int))=true from beq_iff_eq.2 (by omega),if_pos (c:=true=true) rfl,if_pos (c:=i=B.length) cB]
  ·rw [show ((i:Int)==(B.length:Int))=false from beq_eq_false_iff_ne.2 (by omega),if_neg (c:=false=true) (by simp),if_neg (c:=i=B.length) cB]
theorem lexI_cons (x y:Int) (xs ys:List Int):lexI (x::xs) (y::ys)=if cmpI x y=0 then lexI xs ys else cmpI x y:=rfl
theorem less_lex (A B:List Int) (a b:Int) (hA:A.length≤100000) (hB:B.length≤100000):∀ (d i:Nat),i+d=A.length→i≤B.length→
  spec_l5Less.L0 (wayX A a) (wayX B b) (i:Nat)=some (decide (lexI ((wayI A a).drop i) ((wayI B b).drop i)<0))
 |d,i,hd,hi=>by
  have e1:=wayI_len A a
  have e2:=wayI_len B b
  rw [less_step A B a b hA hB i (by omega) hi,rd_drop (wayI A a) i (by omega),rd_drop (wayI B b) i (by omega),lexI_cons]
  have eA:rd (wayI A a) (i:Nat)=2*rd (wayX A a) (i:Nat)+if i=A.length then 0 else 1:=by
   by_cases c:i=A.length
   ·rw [if_pos c,c,way_last];omega
   ·rw [if_neg c,way_at A a i (by omega)]
  have eB:rd (wayI B b) (i:Nat)=2*rd (wayX B b) (i:Nat)+if i=B.length then 0 else 1:=by
   by_cases c:i=B.length
   ·rw [if_pos c,c,way_last];omega
   ·rw [if_neg c,way_at B b i (by omega)]
  rw [eA,eB]
  generalize rd (wayX A a) (i:Nat)=x
  generalize rd (wayX B b) (i:Nat)=y
  by_cases cA:i=A.length
  ·rw [if_pos cA,if_pos cA]
   have n1:(wayI A a).drop (i+1)=[]:=List.drop_eq_nil_of_le (by omega)
   by_cases cB:i=B.length
   ·rw [if_pos cB,if_pos cB]
    have n2:(wayI B b).drop (i+1)=[]:=List.drop_eq_nil_of_le (by omega)
    rcases Int.lt_trichotomy x y with c|c|c
    ·rw [cmpI_lt (by omega),if_neg (by omega),decide_eq_true c]
     rfl
    ·rw [cmpI_eq (by omega),if_pos rfl,decide_eq_false (show ¬ x<y by omega),n1,n2]
     rfl
    ·rw [cmpI_gt (by omega),if_neg (by omega),decide_eq_false (by omega)]
     rfl
   ·rw [if_neg cB,if_neg cB]
    by_cases c:x≤y
    ·rw [cmpI_lt (by omega),if_neg (by omega),decide_eq_true c]
     rfl
    ·rw [cmpI_gt (by omega),if_neg (by omega),decide_eq_false c]
     rfl
  ·rw [if_neg cA,if_neg cA]
   by_cases cB:i=B.length
   ·rw [if_pos cB,if_pos cB]
    by_cases c:x<y
    ·rw [cmpI_lt (by omega),if_neg (by omega),if_neg (by omega),decide_eq_true c]
     rfl
    ·rw [cmpI_gt (by omega),if_neg (c:=(1:Int)=0) (by omega),decide_eq_false c]
     split<;>rfl
   ·rw [if_neg cB,if_neg cB]
    rcases Int.lt_trichotomy x y with c|c|c
    ·rw [cmpI_lt (by omega),if_neg (by omega),if_neg (by omega),decide_eq_true c]
     rfl
    ·rw [cmpI_eq (by omega),if_pos rfl,if_pos c]
     cases d with
     |zero=>omega
     |succ d=>exact less_lex A B a b hA hB d (i+1) (by omega) (by omega)
    ·rw [cmpI_gt (by omega),if_neg (by omega),if_neg (by omega),decide_eq_false (by omega)]
     rfl
theorem wayI_is (l:List S59) (j:Nat) (a:Int):wayI (ways l j).reverse a=wayN l j a:=by
 unfold wayI wayN
 rw [List.map_reverse,← chain_ways l j j (Nat.le_refl _)]
theorem wayW_is (l:List S59) {id a:Int} {j:Nat} (ha:atI l id=some j) (h0:0≤a) (h1:a≤1048576):wayW l id a=wayN l j a:=by
 unfold wayW wayN
 rw [ha]
 show (wrap64 (2*a)::chain l j).reverse=_
 rw [w64 (by omega) (by omega),List.reverse_cons]
theorem less_spec (l:List S59) (R:Right l) {a0 a1 b0 b1:Int} {i j:Nat} (hi:atI l a0=some i) (hj:atI l b0=some j) (i0:0≤a1) (i1:a1≤1048576) (j0:0≤b1) (j1:b1≤1048576):spec_l5Less.F l a0 a1 b0 b1=some (lessB l a0 a1 b0 b1):=by
 have hl:=R.len4
 have w1:=ways_len l i
 have w2:=ways_len l j
 have x1:=(at__lt hi).1
 have x2:=(at__lt hj).1
 rw [spec_l5Less.F_eq,path_is l R hi,Option.bind_some,path_is l R hj,Option.bind_some]
 have:=less_lex (ways l i).reverse (ways l j).reverse a1 b1 (by rw [List.length_reverse];omega) (by rw [List.length_reverse];omega) _ 0 (Nat.zero_add _) (Nat.zero_le _)
 rw [List.drop_zero,List.drop_zero,wayI_is,wayI_is] at this
 refine this.trans ?_
 unfold lessB
 rw [wayW_is l hi i0 i1,wayW_is l hj j0 j1]
end Go.Proofs.Ytbogfagafdokeaa.QFnExactRangeText
