import Derived.Test.YtbogfagafdokeaaTreeRight
namespace Go.Proofs.Ytbogfagafdokeaa.QFnExactRangeText
open Go Go.RowKit Go.Proofs.YtbogfagafdokeaaV.PrintWords Go.Proofs.YtbogfagafdokeaaV.PrintLast Go.Proofs.YtbogfagafdokeaaV.PrintMore Go.Proofs.Ytbogfagafdokeaa.Val Go.Proofs.Ytbogfagafdokeaa.TreeIx
set_option linter.unusedVariables false
set_option linter.unusedSimpArgs false
theorem skip_fits {l:List S59} (R:Right l):∀ (d i q e:Nat),l.length - i≤d→Fits (kdOf l) l.length i q e→spec_l3Skip.L0 l (i:Nat) (q:Nat)=some (e:Int)
 |d,i,0,e,hd,h=>by
  rw [spec_l3Skip.L0_eq,if_neg (by omega),h.zero]
 |0,i,q+1,e,hd,h=>by
  have:=h.open_.1
  omega
 |d+1,i,q+1,e,hd,h=>by
  obtain ⟨hi,m,h1,h2⟩:=h.open_
  have h3:=h1.join h2
  have hk:(rd_T59 l (i:Nat)).f5=(kdOf l i:Int):=by unfold kdOf;rw [Int.toNat_of_nonneg (R.kids i hi)]
  have hc:=h1.count
  have hc2:=h1.le
  have hc3:=h3.count
  have hc4:=h3.le
  have hl:=R.len4
  rw [spec_l3Skip.L0_eq,if_pos (by omega),if_neg (by omega),if_pos (by omega),if_pos (by omega),hk,if_neg (by omega),if_neg (by omega),w64 (x:=(kdOf l i:Int) - 1) (by omega) (by omega),w64 (x:=(i:Int)+1) (by omega) (by omega),w64 (by omega) (by omega)]
  have ih:=skip_fits R d (i+1) (kdOf l i+q) e (by omega) h3
  rw [show ((q+1:Nat):Int)+((kdOf l i:Int) - 1)=((kdOf l i+q:Nat):Int) by omega,show (i:Int)+1=((i+1:Nat):Int) by omega]
  exact ih
theorem skip_is {l:List S59} (R:Right l) {i e:Nat} (h:Fits (kdOf l) l.length i 1 e):spec_l3Skip.F l (i:Nat)=some (e:Int):=by
 rw [spec_l3Skip.F_eq]
 exact skip_fits R _ i 1 e (Nat.le_refl _) h
end Go.Proofs.Ytbogfagafdokeaa.QFnExactRangeText
