import Derived.Test.YtbogfagafdokeaaParentsP
namespace Go.Proofs.Ytbogfagafdokeaa.QFnExactRangeText
open Go Go.RowKit Go.Proofs.YtbogfagafdokeaaV.PrintWords Go.Proofs.YtbogfagafdokeaaV.PrintLast Go.Proofs.YtbogfagafdokeaaV.PrintMore Go.Proofs.Ytbogfagafdokeaa.Val Go.Proofs.Ytbogfagafdokeaa.TreeIx
set_option linter.unusedVariables false
set_option linter.unusedSimpArgs false
noncomputable def ways (l:List S59) (j:Nat):List Int:=(chain l j).map fun x=>x / 2
theorem ways_none {l:List S59} {j:Nat} (h:par l j=none):ways l j=[]:=by unfold ways;rw [chain_none h];rfl
theorem ways_some {l:List S59} {j:Nat} {p:Nat×Nat} (h:par l j=some p):ways l j=(p.2:Int)::ways l p.1:=by
 unfold ways
 rw [chain_some h,List.map_cons,show (2*(p.2:Int)+1) / 2=(p.2:Int) by omega]
theorem ways_len (l:List S59) (j:Nat):(ways l j).length≤j:=by unfold ways;rw [List.length_map];exact chain_len l j
theorem chain_ways (l:List S59):∀ d j:Nat,j≤d→chain l j=(ways l j).map fun x=>2*x+1
 |d,j,hd=>by
  cases h:par l j with
  |none=>rw [ways_none h,chain_none h];rfl
  |some p=>
   have hp:=par_lt h
   rw [ways_some h,chain_some h,List.map_cons]
   cases d with
   |zero=>omega
   |succ d=>rw [chain_ways l d p.1 (by omega)]
theorem path_loop (l:List S59) (R:Right l) {P:List Int} (hP:P.length=l.length) (hp:∀ j:Nat,j<l.length→rd P j=parI l j):∀ (d j:Nat) (xs:List Int),j≤d→j<l.length→xs.length+j≤10000→spec_l5Path.L0 P (j:Nat) xs l=some ((ways l j).reverse++xs)
 |d,j,xs,hd,hj,hx=>by
  rw [spec_l5Path.L0_eq,if_pos (by omega),if_pos (by omega),hp j hj]
  cases h:par l j with
  |none=>rw [parI_none h,if_neg (by omega),ways_none h];rfl
  |some p=>
   have hlt:=par_lt h
   rw [parI_some h,if_pos (by omega),number_is l R (by omega) (par_is h),Option.bind_some,Option.bind_some,if_pos (by simp only [List.length_singleton];omega)]
   cases d with
   |zero=>omega
   |succ d=>
    rw [path_loop l R hP hp d p.1 _ (by omega) (by omega) (by simp only [List.length_append,List.length_singleton];omega),ways_some h,List.reverse_cons,List.append_assoc]
theorem path_is (l:List S59) (R:Right l) {id at':Int} {j:Nat} (ha:atI l id=some j):spec_l5Path.F l id at'=some ((ways l j).reverse++[at']):=by
 obtain ⟨P,h1,h2,h3⟩:=parents_is l R
 obtain ⟨hj,_⟩:=at__lt ha
 have:=R.len4
 rw [spec_l5Path.F_eq,h1,Option.bind_some,l4At_is l R,Option.bind_some,placeOf_some ha]
 exact path_loop l R h2 h3 j j _ (Nat.le_refl _) hj (by simp only [List.length_singleton];omega)
end Go.Proofs.Ytbogfagafdokeaa.QFnExactRangeText
