/- Where the node with an Id stands. -/
import Derived.Test.YtbogfagafdokeaaGarden
namespace Go.Proofs.Ytbogfagafdokeaa.QFnExactRangeText
open Go Go.RowKit Go.Proofs.YtbogfagafdokeaaV.PrintWords Go.Proofs.YtbogfagafdokeaaV.PrintLast Go.Proofs.YtbogfagafdokeaaV.PrintMore Go.Proofs.Ytbogfagafdokeaa.TreeIx Go.Proofs.Ytbogfagafdokeaa.MapObj
set_option linter.unusedVariables false
set_option linter.unusedSimpArgs false
theorem hist_none {l:List S59} {b:Nat→Nat} {id:Int}:∀ {k:Nat},(∀ j:Nat,j<k→(rd_T59 l j).f0≠id)→mget (hist l b k) id=none
 |0,_=>rfl
 |k+1,h=>by
  show (if (rd_T59 l (k:Nat)).f0=id then some (b k) else mget (hist l b k) id)=none
  rw [if_neg (h k (by omega))]
  exact hist_none (fun j hj=>h j (by omega))
theorem hist_some {l:List S59} {b:Nat→Nat} {id:Int} {j:Nat}:∀ {k:Nat},j<k→(rd_T59 l j).f0=id→(∀ i:Nat,j<i→i<k→(rd_T59 l i).f0≠id)→mget (hist l b k) id=some (b j)
 |k+1,hj,e,h=>by
  show (if (rd_T59 l (k:Nat)).f0=id then some (b k) else mget (hist l b k) id)=some (b j)
  by_cases c:j=k
  ·subst c
   rw [if_pos e]
  ·rw [if_neg (h k (by omega) (by omega))]
   exact hist_some (by omega) e (fun i h1 h2=>h i h1 (by omega))
def at_ (l:List S59) (id:Int):Nat→Option Nat
 |0=>none
 |k+1=>if (rd_T59 l (k:Nat)).f0=id then some k else at_ l id k
def atI (l:List S59) (id:Int):Option Nat:=at_ l id l.length
theorem at__lt {l:List S59} {id:Int}:∀ {k j:Nat},at_ l id k=some j→j<k∧(rd_T59 l (j:Nat)).f0=id
 |0,j,h=>by cases h
 |k+1,j,h=>by
  unfold at_ at h
  split at h
  ·rename_i e
   injection h with h
   subst h
   exact ⟨by omega,e⟩
  ·have:=at__lt h
   exact ⟨by omega,this.2⟩
theorem mget_at {l:List S59} {b:Nat→Nat} {id:Int}:∀ k:Nat,mget (hist l b k) id=(at_ l id k).map b
 |0=>rfl
 |k+1=>by
  show (if (rd_T59 l (k:Nat)).f0=id then some (b k) else mget (hist l b k) id)=_
  unfold at_
  split
  ·rfl
  ·exact mget_at k
end Go.Proofs.Ytbogfagafdokeaa.QFnExactRangeText
