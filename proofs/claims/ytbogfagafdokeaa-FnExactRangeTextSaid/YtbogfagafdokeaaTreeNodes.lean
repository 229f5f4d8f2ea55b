import Derived.Test.YtbogfagafdokeaaTreeSmall
namespace Go.Proofs.Ytbogfagafdokeaa.QFnExactRangeText
open Go Go.RowKit Go.Proofs.YtbogfagafdokeaaV.PrintWords Go.Proofs.YtbogfagafdokeaaV.PrintLast Go.Proofs.YtbogfagafdokeaaV.PrintMore Go.Proofs.Ytbogfagafdokeaa.Val
set_option linter.unusedVariables false
set_option linter.unusedSimpArgs false
theorem ImplP.nodes {l:List S59}:∀ {d i:Nat} {st:List Int},ImplP l d i st→∀ j,i≤j→j<i+d→NodeP (rd_T59 l j) (j==0)
 |0,i,st,h,j,h1,h2=>by omega
 |d+1,i,st,h,j,h1,h2=>by
  by_cases e:j=i
  ·rw [e]
   exact h.1.1
  ·exact ImplP.nodes h.2.2.2.2 j (by omega) (by omega)
theorem tree_is (l:List S59) (S:Small l):∃ r,spec_TreeOk.F l=some r∧impl_TreeOk.F l=some r∧(r=true→l.length≤4000∧∀ j:Nat,j<l.length→NodeP (rd_T59 l j) (j==0)):=by
 obtain ⟨r,h1,h2⟩:=tree_both l S
 obtain ⟨r',h3,h4⟩:=impl_tells l S
 have:r=r':=Option.some.inj (h2.symm.trans h3)
 subst this
 exact ⟨r,h1,h2,fun h=>⟨(h4.1 h).2.1,fun j hj=>(h4.1 h).2.2.nodes j (Nat.zero_le _) (by omega)⟩⟩
theorem NodeP.attrs {x:S59} {f:Bool} (h:NodeP x f) (hk:¬ x.f1=2):x.f3=[]:=by
 have h:=h.2.2.2
 apply List.eq_nil_of_length_eq_zero
 rcases h with h|h|h|h|h
 ·exact h.2.2.2
 ·exact absurd h.1 hk
 ·exact h.2.2.2.1
 ·exact h.2.2.1
 ·exact h.2.2.1
end Go.Proofs.Ytbogfagafdokeaa.QFnExactRangeText
