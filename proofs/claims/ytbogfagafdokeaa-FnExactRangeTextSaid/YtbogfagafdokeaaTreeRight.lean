import Derived.Test.YtbogfagafdokeaaTreeNodes
import Derived.Test.YtbogfagafdokeaaAtI
namespace Go.Proofs.Ytbogfagafdokeaa.QFnExactRangeText
open Go Go.RowKit Go.Proofs.YtbogfagafdokeaaV.PrintWords Go.Proofs.YtbogfagafdokeaaV.PrintLast Go.Proofs.YtbogfagafdokeaaV.PrintMore Go.Proofs.Ytbogfagafdokeaa.Val Go.Proofs.Ytbogfagafdokeaa.TreeIx
set_option linter.unusedVariables false
set_option linter.unusedSimpArgs false
theorem SkipP.fits {l:List S59}:∀ {d i:Nat} {need:Int},SkipP l d i need→i+d=l.length→0≤need→Fits (kdOf l) l.length i need.toNat l.length
 |0,i,need,h,hd,h0=>by
  have h:need≤0:=h
  have e:need.toNat=0:=by omega
  have e2:i=l.length:=by omega
  rw [e,e2]
  exact .nil (Nat.le_refl _)
 |d+1,i,need,h,hd,h0=>by
  obtain ⟨h1,h2,h3,h4⟩:=h
  have ih:=h4.fits (by omega) (by omega)
  have e:(need+(rd_T59 l (i:Nat)).f5 - 1).toNat=kdOf l i+(need - 1).toNat:=by unfold kdOf;omega
  rw [e] at ih
  obtain ⟨m,k1,k2⟩:=ih.split
  have e2:need.toNat=(need - 1).toNat+1:=by omega
  rw [e2]
  exact .cons (by omega) k1 k2
theorem ImplP.ids {l:List S59}:∀ {d i:Nat} {st:List Int},ImplP l d i st→∀ j,i≤j→j<i+d→IdsP l j
 |0,i,st,h,j,h1,h2=>by omega
 |d+1,i,st,h,j,h1,h2=>by
  by_cases e:j=i
  ·rw [e]
   exact h.2.1
  ·exact h.2.2.2.2.ids j (by omega) (by omega)
theorem tree_right (l:List S59) (S:Small l):∃ r,spec_TreeOk.F l=some r∧impl_TreeOk.F l=some r∧(r=true→Right l∧∀ j:Nat,j<l.length→NodeP (rd_T59 l j) (j==0)):=by
 obtain ⟨r,h1,h2,h3⟩:=tree_is l S
 refine ⟨r,h1,h2,fun hr=>?_⟩
 obtain ⟨r',e1,e2⟩:=spec_tells l S
 obtain ⟨r'',e3,e4⟩:=impl_tells l S
 have:r=r':=Option.some.inj (h1.symm.trans e1)
 subst this
 have:r=r'':=Option.some.inj (h2.symm.trans e3)
 subst this
 have a:=e2.1 hr
 have b:=e4.1 hr
 refine ⟨{ len1:=a.1,len4:=a.2.1,kids:=fun j hj=>(a.2.2.1.kids j (Nat.zero_le _) (by omega)).1,fits:=a.2.2.1.fits (by omega) (by omega),ids:=fun i j h1 h2=>b.2.2.ids j (Nat.zero_le _) (by omega) i h1 },(h3 hr).2⟩
theorem at__none {l:List S59} {id:Int}:∀ {k:Nat},at_ l id k=none→∀ j:Nat,j<k→(rd_T59 l j).f0≠id
 |0,_,j,hj=>by omega
 |k+1,h,j,hj=>by
  unfold at_ at h
  split at h
  ·cases h
  ·rename_i e
   by_cases c:j=k
   ·rw [c]
    exact e
   ·exact at__none h j (by omega)
def placeOf (l:List S59) (id:Int):Int:=match atI l id with
 |none=>-1
 |some j=>(j:Int)
theorem placeOf_none {l:List S59} {id:Int} (h:atI l id=none):placeOf l id = -1:=by unfold placeOf;rw [h]
theorem placeOf_some {l:List S59} {id:Int} {j:Nat} (h:atI l id=some j):placeOf l id=(j:Int):=by unfold placeOf;rw [h]
theorem l4At_is (l:List S59) (R:Right l) (id:Int):spec_l4At.F l id=some (placeOf l id):=by
 rw [spec_l4At.F_eq]
 have hl:=R.len4
 have step:∀ i:Nat,i<l.length→(rd_T59 l (i:Nat)).f0≠id→spec_l4At.L0 id (i:Nat) l=spec_l4At.L0 id ((i+1:Nat):Int) l:=by
  intro i hi hn
  rw [spec_l4At.L0_eq,if_pos (by omega),if_pos (by omega),if_neg hn,w64 (by omega) (by omega)]
  rfl
 unfold placeOf
 cases ha:atI l id with
 |none=>
  have hn:=at__none ha
  have key:∀ d i:Nat,i+d=l.length→spec_l4At.L0 id (i:Nat) l=some (-1):=by
   intro d
   induction d with
   |zero=>
    intro i hi
    rw [spec_l4At.L0_eq,if_neg (by omega)]
   |succ d ih=>
    intro i hi
    rw [step i (by omega) (hn i (by omega))]
    exact ih (i+1) (by omega)
  exact key l.length 0 (by omega)
 |some j=>
  obtain ⟨hj,hid⟩:=at__lt ha
  have key:∀ d i:Nat,i+d=j→spec_l4At.L0 id (i:Nat) l=some (j:Int):=by
   intro d
   induction d with
   |zero=>
    intro i hi
    have:i=j:=by omega
    subst this
    rw [spec_l4At.L0_eq,if_pos (by omega),if_pos (by omega),if_pos hid]
   |succ d ih=>
    intro i hi
    rw [step i (by omega) (by rw [← hid];exact R.ids i j (by omega) hj)]
    exact ih (i+1) (by omega)
  exact key j 0 (by omega)
end Go.Proofs.Ytbogfagafdokeaa.QFnExactRangeText
