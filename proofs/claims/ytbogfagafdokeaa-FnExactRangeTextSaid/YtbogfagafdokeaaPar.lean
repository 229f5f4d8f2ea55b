/- The way upward from a node: the one that it stands in, and its place there. -/
import Derived.Test.YtbogfagafdokeaaGarden
namespace Go.Proofs.Ytbogfagafdokeaa.QFnExactRangeText
open Go Go.RowKit Go.Proofs.YtbogfagafdokeaaV.PrintWords Go.Proofs.YtbogfagafdokeaaV.PrintLast Go.Proofs.YtbogfagafdokeaaV.PrintMore Go.Proofs.Ytbogfagafdokeaa.TreeIx
set_option linter.unusedVariables false
set_option linter.unusedSimpArgs false
noncomputable section
open Classical in
def par (l:List S59) (j:Nat):Option (Nat×Nat):=if h:∃ p:Nat×Nat,KidAt (kdOf l) l.length p.1 p.2 j then some h.choose else none
def ups (l:List S59):Nat→Nat→List Int
 |0,_=>[]
 |f+1,j=>match par l j with
  |none=>[]
  |some p=>(2*(p.2:Int)+1)::ups l f p.1
def chain (l:List S59) (j:Nat):List Int:=ups l j j
end
theorem par_some {l:List S59} {i q j:Nat} (h:KidAt (kdOf l) l.length i q j):par l j=some (i,q):=by
 have hx:∃ p:Nat×Nat,KidAt (kdOf l) l.length p.1 p.2 j:=⟨(i,q),h⟩
 unfold par
 rw [dif_pos hx]
 have:=hx.choose_spec.uniq h
 exact congrArg some (Prod.ext this.1 this.2)
theorem par_is {l:List S59} {j:Nat} {p:Nat×Nat} (h:par l j=some p):KidAt (kdOf l) l.length p.1 p.2 j:=by
 unfold par at h
 split at h
 ·rename_i hx
  injection h with h
  rw [← h]
  exact hx.choose_spec
 ·cases h
theorem par_lt {l:List S59} {j:Nat} {p:Nat×Nat} (h:par l j=some p):p.1<j:=(par_is h).gt
theorem par_zero (l:List S59):par l 0=none:=by
 cases h:par l 0 with
 |none=>rfl
 |some p=>exact absurd (par_lt h) (by omega)
theorem par_pos {l:List S59} (R:Right l) {j:Nat} (h0:0<j) (hj:j<l.length):∃ p,par l j=some p:=by
 rcases R.fits.above (Nat.zero_le j) hj with ⟨p,hp,hf⟩|⟨i,q,_,_,k⟩
 ·have:p=0:=by omega
  subst this
  have:=hf.zero
  omega
 ·exact ⟨_,par_some k⟩
theorem ups_zero (l:List S59) (f:Nat):ups l f 0=[]:=by
 cases f with
 |zero=>rfl
 |succ f=>
  show (match par l 0 with|none=>[]|some p=>(2*(p.2:Int)+1)::ups l f p.1)=[]
  rw [par_zero]
theorem ups_same (l:List S59):∀ f g j:Nat,j≤f→j≤g→ups l f j=ups l g j
 |0,g,j,h1,h2=>by
  rw [show j=0 by omega,ups_zero,ups_zero]
 |f+1,0,j,h1,h2=>by
  rw [show j=0 by omega,ups_zero,ups_zero]
 |f+1,g+1,j,h1,h2=>by
  show (match par l j with|none=>[]|some p=>(2*(p.2:Int)+1)::ups l f p.1)=(match par l j with|none=>[]|some p=>(2*(p.2:Int)+1)::ups l g p.1)
  cases h:par l j with
  |none=>rfl
  |some p=>
   have hp:=par_lt h
   show _::ups l f p.1=_::ups l g p.1
   rw [ups_same l f g p.1 (by omega) (by omega)]
theorem chain_none {l:List S59} {j:Nat} (h:par l j=none):chain l j=[]:=by
 unfold chain
 cases j with
 |zero=>rfl
 |succ j=>
  show (match par l (j+1) with|none=>[]|some p=>(2*(p.2:Int)+1)::ups l j p.1)=[]
  rw [h]
theorem chain_some {l:List S59} {j:Nat} {p:Nat×Nat} (h:par l j=some p):chain l j=(2*(p.2:Int)+1)::chain l p.1:=by
 have hp:=par_lt h
 unfold chain
 cases j with
 |zero=>omega
 |succ j=>
  show (match par l (j+1) with|none=>[]|some p=>(2*(p.2:Int)+1)::ups l j p.1)=_
  rw [h]
  show _::ups l j p.1=_
  rw [ups_same l j p.1 p.1 (by omega) (Nat.le_refl _)]
theorem ups_len (l:List S59):∀ f j:Nat,(ups l f j).length≤f
 |0,_=>Nat.le_refl _
 |f+1,j=>by
  show (match par l j with|none=>[]|some p=>(2*(p.2:Int)+1)::ups l f p.1).length≤f+1
  split
  ·exact Nat.zero_le _
  ·rename_i p _
   have:=ups_len l f p.1
   simp only [List.length_cons]
   omega
theorem chain_len (l:List S59) (j:Nat):(chain l j).length≤j:=ups_len l j j
theorem gar_par {w0 W:World} {l:List S59} {va:Nat→Value} {G:Gh} (R:Right l) (h:Gar w0 W l va G) {j:Nat} (hj:j<l.length) :
  (par l j=none∧G.up j=.pointer none) ∨ ∃ p,par l j=some p∧p.1<j∧p.2<l.length∧G.up j=.pointer (some ⟨G.b p.1,0,none⟩)∧G.pl j=p.2:=by
 by_cases h0:j=0
 ·subst h0
  exact .inl ⟨par_zero l,h.up0⟩
 ·obtain ⟨p,hp⟩:=par_pos R (by omega) hj
  have hk:=par_is hp
  have hlt:=par_lt hp
  obtain ⟨d1,d2⟩:=h.done p.1 (by omega)
  have hq:p.2<(G.kl p.1).length:=by rw [d1];exact hk.1
  obtain ⟨k1,k2,k3⟩:=d2 p.2 _ (List.getElem?_eq_getElem hq)
  have he:=k1.det hk.2
  rw [he] at k2 k3
  have:=hk.2.count
  exact .inr ⟨p,hp,hlt,by omega,k2,k3⟩
end Go.Proofs.Ytbogfagafdokeaa.QFnExactRangeText
