/- Ways in a tree: how two of them part, and what that tells of their order. Plain. -/
import Derived.Test.YtbogfagafdokeaaLex
namespace Go.Proofs.Ytbogfagafdokeaa.QFnExactRangeText
open Go Go.RowKit Go.Proofs.YtbogfagafdokeaaV.PrintWords Go.Proofs.YtbogfagafdokeaaV.PrintLast Go.Proofs.YtbogfagafdokeaaV.PrintMore Go.Proofs.Ytbogfagafdokeaa.Val Go.Proofs.Ytbogfagafdokeaa.TreeIx
set_option linter.unusedVariables false
set_option linter.unusedSimpArgs false
theorem cmpI_lt {x y:Int} (h:x<y):cmpI x y = -1:=by unfold cmpI;rw [if_pos h]
theorem cmpI_gt {x y:Int} (h:y<x):cmpI x y=1:=by unfold cmpI;rw [if_neg (by omega),if_pos h]
theorem cmpI_eq {x y:Int} (h:x=y):cmpI x y=0:=by unfold cmpI;rw [if_neg (by omega),if_neg (by omega)]
def Ahead (xs ys:List Int):Prop:=lexI xs ys = -1∧lexI ys xs=1
theorem ahead_at {u v:Int} (h:u<v) (U V:List Int):∀ A:List Int,Ahead (A++u::U) (A++v::V)
 |[]=>by
  constructor
  ·show (if cmpI u v=0 then lexI U V else cmpI u v) = -1
   rw [cmpI_lt h,if_neg (by omega)]
  ·show (if cmpI v u=0 then lexI V U else cmpI v u)=1
   rw [cmpI_gt h,if_neg (by omega)]
 |a::A=>by
  have ih:=ahead_at h U V A
  constructor
  ·show (if cmpI a a=0 then lexI (A++u::U) (A++v::V) else cmpI a a) = -1
   rw [cmpI_eq rfl,if_pos rfl]
   exact ih.1
  ·show (if cmpI a a=0 then lexI (A++v::V) (A++u::U) else cmpI a a)=1
   rw [cmpI_eq rfl,if_pos rfl]
   exact ih.2
section
variable {kd:Nat→Nat} {n:Nat}
theorem kid_under {s m e:Nat} (h:Fits kd n s m e):∀ {i:Nat},s≤i→i<e→∃ q c c',q<m∧Fits kd n s q c∧Fits kd n c 1 c'∧c≤i∧i<c':=by
 induction h with
 |nil h=>intro i h1 h2;omega
 |@cons s q m e h1 h2 h3 ih1 ih2=>
  intro i k1 k2
  by_cases c:i<m
  ·exact ⟨0,s,m,by omega,.nil (by omega),Fits.mk1 h1 h2,k1,c⟩
  ·obtain ⟨q',c1,c2,a1,a2,a3,a4,a5⟩:=ih2 (by omega) k2
   refine ⟨1+q',c1,c2,by omega,(Fits.mk1 h1 h2).join a2,a3,a4,a5⟩
end
theorem under_chain (l:List S59) {c e:Nat} (hc:c<l.length) (he:Fits (kdOf l) l.length (c+1) (kdOf l c) e):∀ d i:Nat,i≤d→c≤i→i<e→∃ D,chain l i=D++chain l c
 |d,i,hd,h1,h2=>by
  by_cases x:i=c
  ·exact ⟨[],by rw [x];rfl⟩
  ·rcases he.above (j:=i) (by omega) h2 with ⟨p,hp,hf⟩|⟨i',p,g1,g2,k⟩
   ·exact ⟨[2*(p:Int)+1],by rw [chain_some (par_some (show KidAt (kdOf l) l.length c p i from ⟨hp,hf⟩))];rfl⟩
   ·cases d with
    |zero=>omega
    |succ d=>
     obtain ⟨D,hD⟩:=under_chain l hc he d i' (by omega) (by omega) (by omega)
     exact ⟨(2*(p:Int)+1)::D,by rw [chain_some (par_some k),hD];rfl⟩
theorem under_kid (l:List S59) {a e:Nat} (ha:a<l.length) (he:Fits (kdOf l) l.length (a+1) (kdOf l a) e) {i:Nat} (h1:a<i) (h2:i<e):∃ q c c' D,KidAt (kdOf l) l.length a q c∧Fits (kdOf l) l.length c 1 c'∧c≤i∧i<c'∧chain l i=D++(2*(q:Int)+1)::chain l a:=by
 obtain ⟨q,c,c',h3,h4,h5,h6,h7⟩:=kid_under he (i:=i) (by omega) h2
 have k:KidAt (kdOf l) l.length a q c:=⟨h3,h4⟩
 obtain ⟨hcn,hc'⟩:=h5.one
 obtain ⟨D,hD⟩:=under_chain l hcn hc' i i (Nat.le_refl _) h6 h7
 exact ⟨q,c,c',D,k,h5,h6,h7,by rw [hD,chain_some (par_some k)]⟩
theorem diverge (l:List S59) (R:Right l) {i e:Nat} (hi:i<l.length) (he:Fits (kdOf l) l.length (i+1) (kdOf l i) e):∀ d m:Nat,m≤d→m<l.length→i<m→e≤m→
  ∃ (A U V:List Int) (u v:Int),u<v∧(chain l i).reverse=A++u::U∧(chain l m).reverse=A++v::V
 |d,m,hd,hm,h1,h2=>by
  obtain ⟨⟨p,q⟩,hp⟩:=par_pos R (show 0<m by omega) hm
  have hk:KidAt (kdOf l) l.length p q m:=par_is hp
  have hlt:p<m:=par_lt hp
  have hcm:=chain_some hp
  rcases Nat.lt_trichotomy p i with c|c|c
  ·obtain ⟨q',c1,c2,D,k,k1,k2,k3,k4⟩:∃ q' c1 c2 D,KidAt (kdOf l) l.length p q' c1∧Fits (kdOf l) l.length c1 1 c2∧c1≤i∧i<c2∧chain l i=D++(2*(q':Int)+1)::chain l p:=by
    obtain ⟨ep,fp,_⟩:=R.fits.inner (Nat.zero_le p) (show p<l.length by omega)
    have:=hk.lt_end fp
    exact under_kid l (by omega) fp c (by omega)
   have hq:q'<q:=by
    rcases Nat.lt_trichotomy q' q with x|x|x
    ·exact x
    ·subst x
     have:=k.2.det hk.2
     omega
    ·have:=hk.2.mono_lt k.2 x
     omega
   refine ⟨(chain l p).reverse,D.reverse,[],2*(q':Int)+1,2*(q:Int)+1,by omega,?_,?_⟩
   ·rw [k4,List.reverse_append,List.reverse_cons,List.append_assoc]
    rfl
   ·rw [hcm,List.reverse_cons]
  ·subst c
   have:=hk.lt_end he
   omega
  ·have hpe:e≤p:=by
    rcases Nat.lt_or_ge p e with x|x
    ·obtain ⟨m',f1,f2⟩:=he.inner (j:=p) (by omega) x
     have:=hk.lt_end f1
     omega
    ·exact x
   cases d with
   |zero=>omega
   |succ d=>
    obtain ⟨A,U,V,u,v,g1,g2,g3⟩:=diverge l R hi he d p (by omega) (by omega) c hpe
    refine ⟨A,U,V++[2*(q:Int)+1],u,v,g1,g2,?_⟩
    rw [hcm,List.reverse_cons,g3,List.append_assoc]
    rfl
noncomputable def wayN (l:List S59) (j:Nat) (x:Int):List Int:=(chain l j).reverse++[2*x]
theorem ahead_div (l:List S59) (R:Right l) {i e m:Nat} (hi:i<l.length) (he:Fits (kdOf l) l.length (i+1) (kdOf l i) e) (hm:m<l.length) (h1:i<m) (h2:e≤m) (x y:Int):Ahead (wayN l i x) (wayN l m y):=by
 obtain ⟨A,U,V,u,v,g1,g2,g3⟩:=diverge l R hi he m m (Nat.le_refl _) hm h1 h2
 unfold wayN
 rw [g2,g3,List.append_assoc,List.append_assoc]
 exact ahead_at g1 _ _ A
structure Edge (l:List S59) (j:Nat) (at':Int) (E:Nat):Prop where
 text:(rd_T59 l (j:Nat)).f1=3→E=j
 node:(rd_T59 l (j:Nat)).f1≠3→∃ q:Nat,at'=q∧q≤kdOf l j∧Fits (kdOf l) l.length (j+1) q E
theorem edge_order (l:List S59) (R:Right l) {j k E:Nat} {at':Int} (hj:j<l.length) (hk:k<l.length) (hne:k≠j) (h3:(rd_T59 l (k:Nat)).f1=3) (hleaf:∀ i:Nat,i<l.length→(rd_T59 l (i:Nat)).f1=3→kdOf l i=0) (hE:Edge l j at' E) (x:Int) :
  (k<E∧Ahead (wayN l k x) (wayN l j at')) ∨ (E≤k∧Ahead (wayN l j at') (wayN l k x)):=by
 obtain ⟨e,he,_⟩:=R.fits.inner (Nat.zero_le j) hj
 have hk0:=hleaf k hk h3
 have fk:Fits (kdOf l) l.length (k+1) (kdOf l k) (k+1):=by rw [hk0];exact .nil (by omega)
 rcases Nat.lt_or_ge k j with c|c
 ·refine .inl ⟨?_,ahead_div l R hk fk hj c (by omega) x at'⟩
  by_cases t:(rd_T59 l (j:Nat)).f1=3
  ·rw [hE.text t]
   exact c
  ·obtain ⟨q,_,_,f⟩:=hE.node t
   have:=f.le
   omega
 ·by_cases u:k<e
  ·have t:(rd_T59 l (j:Nat)).f1≠3:=by
    intro t
    have:=hleaf j hj t
    rw [this] at he
    have:=he.zero
    omega
   obtain ⟨q,h1,h2,f⟩:=hE.node t
   obtain ⟨q',c1,c2,D,kk,k1,k2,k3,k4⟩:=under_kid l hj he (i:=k) (by omega) u
   have e1:wayN l k x=(chain l j).reverse++(2*(q':Int)+1)::(D.reverse++[2*x]):=by
    unfold wayN
    rw [k4,List.reverse_append,List.reverse_cons,List.append_assoc,List.append_assoc]
    rfl
   have e2:wayN l j at'=(chain l j).reverse++(2*at')::[]:=rfl
   rw [e1,e2]
   rcases Nat.lt_or_ge q' q with y|y
   ·refine .inl ⟨?_,ahead_at (by omega) _ _ _⟩
    have f2:=kk.2.join k1
    rcases Nat.lt_or_ge (q'+1) q with z|z
    ·have:=f2.mono_lt f z
     omega
    ·have:q'+1=q:=by omega
     rw [this] at f2
     have:=f2.det f
     omega
   ·refine .inr ⟨?_,ahead_at (by omega) _ _ _⟩
    rcases Nat.lt_or_ge q q' with z|z
    ·have:=f.mono_lt kk.2 z
     omega
    ·have:q=q':=by omega
     rw [this] at f
     have:=f.det kk.2
     omega
  ·have hlt:j<k:=by omega
   refine .inr ⟨?_,ahead_div l R hj he hk hlt (by omega) at' x⟩
   by_cases t:(rd_T59 l (j:Nat)).f1=3
   ·rw [hE.text t]
    omega
   ·obtain ⟨q,h1,h2,f⟩:=hE.node t
    rcases Nat.lt_or_ge q (kdOf l j) with z|z
    ·have:=f.mono_lt he z
     omega
    ·have:q=kdOf l j:=by omega
     rw [this] at f
     have:=f.det he
     omega
end Go.Proofs.Ytbogfagafdokeaa.QFnExactRangeText
