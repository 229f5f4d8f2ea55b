/- Trees as rows of nodes in their order: where what a node holds begins and ends. Plain Lean. -/
namespace Go.Proofs.Ytbogfagafdokeaa.TreeIx
inductive Fits (kd:Nat→Nat) (n:Nat):Nat→Nat→Nat→Prop
 |nil {i:Nat}:i≤n→Fits kd n i 0 i
 |cons {i q m e:Nat}:i<n→Fits kd n (i+1) (kd i) m→Fits kd n m q e→Fits kd n i (q+1) e
variable {kd:Nat→Nat} {n:Nat}
theorem Fits.le {i q e:Nat} (h:Fits kd n i q e):i≤e∧e≤n:=by
 induction h with
 |nil h=>exact ⟨Nat.le_refl _,h⟩
 |cons h1 h2 h3 ih1 ih2=>omega
theorem Fits.zero {i e:Nat} (h:Fits kd n i 0 e):i=e:=by cases h;rfl
theorem Fits.open_ {i q e:Nat} (h:Fits kd n i (q+1) e):i<n∧∃ m,Fits kd n (i+1) (kd i) m∧Fits kd n m q e:=by
 cases h with
 |cons h1 h2 h3=>exact ⟨h1,_,h2,h3⟩
theorem Fits.lt {i q e:Nat} (h:Fits kd n i (q+1) e):i<e:=by
 obtain ⟨_,m,h2,h3⟩:=h.open_
 have:=h2.le
 have:=h3.le
 omega
theorem Fits.count {i q e:Nat} (h:Fits kd n i q e):i+q≤e:=by
 induction h with
 |nil h=>exact Nat.le_refl _
 |cons h1 h2 h3 ih1 ih2=>omega
theorem Fits.det {i q e:Nat} (h:Fits kd n i q e):∀ {e':Nat},Fits kd n i q e'→e=e':=by
 induction h with
 |nil h=>intro e' h';exact h'.zero
 |cons h1 h2 h3 ih1 ih2=>
  intro e' h'
  obtain ⟨_,m,k2,k3⟩:=h'.open_
  have:=ih1 k2
  subst this
  exact ih2 k3
theorem Fits.join {i a m:Nat} (h:Fits kd n i a m):∀ {b e:Nat},Fits kd n m b e→Fits kd n i (a+b) e:=by
 induction h with
 |nil h=>intro b e k;rw [Nat.zero_add];exact k
 |cons h1 h2 h3 ih1 ih2=>
  intro b e k
  rw [Nat.add_right_comm]
  exact .cons h1 h2 (ih2 k)
theorem Fits.split:∀ {a b i e:Nat},Fits kd n i (a+b) e→∃ m,Fits kd n i a m∧Fits kd n m b e
 |0,b,i,e,h=>by
  rw [Nat.zero_add] at h
  exact ⟨i,.nil (by have:=h.le;omega),h⟩
 |a+1,b,i,e,h=>by
  rw [Nat.add_right_comm] at h
  obtain ⟨h1,m,h2,h3⟩:=h.open_
  obtain ⟨m',h4,h5⟩:=Fits.split h3
  exact ⟨m',.cons h1 h2 h4,h5⟩
theorem Fits.one {i e:Nat} (h:Fits kd n i 1 e):i<n∧Fits kd n (i+1) (kd i) e:=by
 obtain ⟨h1,m,h2,h3⟩:=h.open_
 have:=h3.zero
 subst this
 exact ⟨h1,h2⟩
theorem Fits.mk1 {i e:Nat} (h:i<n) (k:Fits kd n (i+1) (kd i) e):Fits kd n i 1 e:=.cons h k (.nil k.le.2)
def KidAt (kd:Nat→Nat) (n i q c:Nat):Prop:=q<kd i∧Fits kd n (i+1) q c
theorem Fits.inner {i q e:Nat} (h:Fits kd n i q e):∀ {j:Nat},i≤j→j<e→∃ m,Fits kd n (j+1) (kd j) m∧m≤e:=by
 induction h with
 |nil h=>intro j h1 h2;omega
 |@cons i q m e h1 h2 h3 ih1 ih2=>
  intro j k1 k2
  have:=h3.le
  by_cases c:j=i
  ·subst c
   exact ⟨m,h2,by omega⟩
  ·by_cases c2:j<m
   ·obtain ⟨m',k,k'⟩:=ih1 (by omega) c2
    exact ⟨m',k,by omega⟩
   ·exact ih2 (by omega) k2
theorem Fits.above {i q e:Nat} (h:Fits kd n i q e):∀ {j:Nat},i≤j→j<e→(∃ p,p<q∧Fits kd n i p j) ∨ ∃ i' p,i≤i'∧i'<j∧KidAt kd n i' p j:=by
 induction h with
 |nil h=>intro j h1 h2;omega
 |@cons i q m e h1 h2 h3 ih1 ih2=>
  intro j k1 k2
  by_cases c:j=i
  ·subst c
   exact .inl ⟨0,by omega,.nil (by omega)⟩
  ·by_cases c2:j<m
   ·rcases ih1 (by omega) c2 with ⟨p,hp,hf⟩|⟨i',p,a,b,k⟩
    ·exact .inr ⟨i,p,by omega,by omega,hp,hf⟩
    ·exact .inr ⟨i',p,by omega,b,k⟩
   ·rcases ih2 (by omega) k2 with ⟨p,hp,hf⟩|⟨i',p,a,b,k⟩
    ·refine .inl ⟨1+p,by omega,(Fits.mk1 h1 h2).join hf⟩
    ·have:=h2.le
     exact .inr ⟨i',p,by omega,b,k⟩
theorem Fits.mono_lt {i a b e e':Nat} (h:Fits kd n i a e) (k:Fits kd n i b e') (hab:a<b):e<e':=by
 obtain ⟨c,rfl⟩:∃ c,b=a+(c+1):=⟨b - a - 1,by omega⟩
 obtain ⟨m,k1,k2⟩:=k.split
 have:=h.det k1
 subst this
 exact k2.lt
theorem KidAt.gt {i q c:Nat} (h:KidAt kd n i q c):i<c:=by
 have:=h.2.le
 omega
theorem KidAt.lt_end {i q c e:Nat} (h:KidAt kd n i q c) (k:Fits kd n (i+1) (kd i) e):c<e:=h.2.mono_lt k h.1
theorem KidAt.uniq_le {i i' q q' c:Nat} (h:KidAt kd n i q c) (h':KidAt kd n i' q' c) (hle:i≤i'):i=i'∧q=q':=by
 by_cases e:i=i'
 ·subst e
  refine ⟨rfl,?_⟩
  rcases Nat.lt_trichotomy q q' with l|l|l
  ·have:=h.2.mono_lt h'.2 l
   omega
  ·exact l
  ·have:=h'.2.mono_lt h.2 l
   omega
 ·exfalso
  have g:=h'.gt
  obtain ⟨m,k1,k2⟩:=h.2.inner (j:=i') (by omega) g
  have:=h'.lt_end k1
  omega
theorem KidAt.uniq {i i' q q' c:Nat} (h:KidAt kd n i q c) (h':KidAt kd n i' q' c):i=i'∧q=q':=by
 rcases Nat.le_total i i' with l|l
 ·exact h.uniq_le h' l
 ·have:=h'.uniq_le h l
  exact ⟨this.1.symm,this.2.symm⟩
end Go.Proofs.Ytbogfagafdokeaa.TreeIx
