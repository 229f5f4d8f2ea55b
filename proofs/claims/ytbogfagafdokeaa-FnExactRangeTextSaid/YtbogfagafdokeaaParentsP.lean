import Derived.Test.YtbogfagafdokeaaSkipFits
import Derived.Test.YtbogfagafdokeaaPar
namespace Go.Proofs.Ytbogfagafdokeaa.QFnExactRangeText
open Go Go.RowKit Go.Proofs.YtbogfagafdokeaaV.PrintWords Go.Proofs.YtbogfagafdokeaaV.PrintLast Go.Proofs.YtbogfagafdokeaaV.PrintMore Go.Proofs.Ytbogfagafdokeaa.Val Go.Proofs.Ytbogfagafdokeaa.TreeIx
set_option linter.unusedVariables false
set_option linter.unusedSimpArgs false
inductive Opened (l:List S59):Nat→List (Nat×Nat)→Prop
 |nil {i:Nat}:i=l.length→Opened l i []
 |cons {i a c m:Nat} {s:List (Nat×Nat)}:a<l.length→c≤kdOf l a→Fits (kdOf l) l.length (a+1) (kdOf l a - c) i→Fits (kdOf l) l.length i c m→Opened l m s→Opened l i ((a,c)::s)
def popC:List (Nat×Nat)→List (Nat×Nat)
 |[]=>[]
 |p::r=>if p.2=0 then popC r else p::r
theorem popC_opened {l:List S59}:∀ {s:List (Nat×Nat)} {i:Nat},Opened l i s→Opened l i (popC s)
 |[],i,h=>h
 |(a,c)::s,i,h=>by
  unfold popC
  by_cases e:c=0
  ·rw [if_pos e]
   cases h with
   |cons h1 h2 h3 h4 h5=>
    rw [e] at h4
    have:=h4.zero
    subst this
    exact popC_opened h5
  ·rw [if_neg e]
   exact h
theorem popC_len:∀ s:List (Nat×Nat),(popC s).length≤s.length
 |[]=>Nat.le_refl _
 |p::s=>by
  unfold popC
  split
  ·have:=popC_len s
   simp only [List.length_cons]
   omega
  ·exact Nat.le_refl _
theorem popC_head:∀ {s:List (Nat×Nat)} {p:Nat×Nat} {r:List (Nat×Nat)},popC s=p::r→p.2≠0
 |[],p,r,h=>by cases h
 |q::s,p,r,h=>by
  unfold popC at h
  split at h
  ·exact popC_head h
  ·rename_i e
   injection h with h _
   rw [← h]
   exact e
def stkA (s:List (Nat×Nat)):List Int:=(s.map fun p=>(p.1:Int)).reverse
def stkC (s:List (Nat×Nat)):List Int:=(s.map fun p=>(p.2:Int)).reverse
theorem stkA_cons (p:Nat×Nat) (s:List (Nat×Nat)):stkA (p::s)=stkA s++[(p.1:Int)]:=by unfold stkA;rw [List.map_cons,List.reverse_cons]
theorem stkC_cons (p:Nat×Nat) (s:List (Nat×Nat)):stkC (p::s)=stkC s++[(p.2:Int)]:=by unfold stkC;rw [List.map_cons,List.reverse_cons]
theorem stkA_len (s:List (Nat×Nat)):(stkA s).length=s.length:=by unfold stkA;rw [List.length_reverse,List.length_map]
theorem stkC_len (s:List (Nat×Nat)):(stkC s).length=s.length:=by unfold stkC;rw [List.length_reverse,List.length_map]
theorem rd_last (xs:List Int) (v:Int):rd (xs++[v]) (xs.length:Int)=v:=by
 unfold rd
 simp [List.getD_eq_getElem?_getD]
theorem take_last (xs:List Int) (v:Int):(xs++[v]).take ((xs.length:Int)).toNat=xs:=by simp
theorem set_last (xs:List Int) (v u:Int):(xs++[v]).set ((xs.length:Int)).toNat u=xs++[u]:=by simp
theorem parents_pop (l:List S59) (out:List Int) (i:Int):∀ s:List (Nat×Nat),s.length≤4002→spec_l4Parents.L1 l out (stkA s) (stkC s) i=spec_l4Parents.L0 l out (stkA (popC s)) (stkC (popC s)) (wrap64 (i+1))
 |[],h=>by
  rw [spec_l4Parents.L1_eq,if_neg (by simp [stkC])]
  rfl
 |p::s,h=>by
  simp only [List.length_cons] at h
  have e1:((stkC (p::s)).length:Int)=s.length+1:=by rw [stkC_len];simp
  have e2:((stkA (p::s)).length:Int)=s.length+1:=by rw [stkA_len];simp
  have hw:wrap64 ((s.length:Int)+1 - 1)=(s.length:Int):=by rw [w64 (by omega) (by omega)];omega
  have hr:rd (stkC (p::s)) (s.length:Int)=p.2:=by rw [stkC_cons,← stkC_len s];exact rd_last _ _
  rw [spec_l4Parents.L1_eq,e1,e2,hw,if_pos (by omega),if_pos (by omega),if_pos (by omega),hr]
  unfold popC
  by_cases e:p.2=0
  ·rw [if_pos (by omega),if_pos e,if_pos (by omega),if_pos (by omega),if_pos (by omega)]
   have t1:(stkA (p::s)).take ((s.length:Int)).toNat=stkA s:=by rw [stkA_cons,← stkA_len s];exact take_last _ _
   have t2:(stkC (p::s)).take ((s.length:Int)).toNat=stkC s:=by rw [stkC_cons,← stkC_len s];exact take_last _ _
   rw [t1,t2]
   exact parents_pop l out i s (by omega)
  ·rw [if_neg (by omega),if_neg e]
noncomputable def parI (l:List S59) (j:Nat):Int:=match par l j with
 |none=>-1
 |some p=>(p.1:Int)
theorem parI_none {l:List S59} {j:Nat} (h:par l j=none):parI l j = -1:=by unfold parI;rw [h]
theorem parI_some {l:List S59} {j:Nat} {p:Nat×Nat} (h:par l j=some p):parI l j=(p.1:Int):=by unfold parI;rw [h]
theorem rd_set_same (xs:List Int) (i:Nat) (v:Int) (h:i<xs.length):rd (xs.set i v) (i:Int)=v:=by
 unfold rd
 rw [Int.toNat_natCast,List.getD_eq_getElem?_getD,List.getElem?_set_self h]
 rfl
theorem rd_set_ne (xs:List Int) (i j:Nat) (v:Int) (h:i≠j):rd (xs.set i v) (j:Int)=rd xs j:=by
 unfold rd
 rw [Int.toNat_natCast,List.getD_eq_getElem?_getD,List.getD_eq_getElem?_getD,List.getElem?_set_ne h]
theorem parents_loop (l:List S59) (R:Right l):∀ (d i:Nat) (out:List Int) (s:List (Nat×Nat)),i+d=l.length→out.length=l.length→s.length≤i→(i=0∧s=[] ∨ 0<i∧Opened l i s∧(∀ p r,s=p::r→p.2≠0))→(∀ j:Nat,j<i→rd out j=parI l j)→
  ∃ P,spec_l4Parents.L0 l out (stkA s) (stkC s) (i:Nat)=some P∧P.length=l.length∧∀ j:Nat,j<l.length→rd P j=parI l j
 |0,i,out,s,hd,ho,hs,hi,hp=>by
  rw [spec_l4Parents.L0_eq,if_neg (by omega)]
  exact ⟨out,rfl,ho,fun j hj=>hp j (by omega)⟩
 |d+1,i,out,s,hd,ho,hs,hi,hp=>by
  have hl:=R.len4
  have hin:i<l.length:=by omega
  obtain ⟨mi,fi,_⟩:=R.fits.inner (Nat.zero_le i) hin
  have hk:(rd_T59 l (i:Nat)).f5=(kdOf l i:Int):=by unfold kdOf;rw [Int.toNat_of_nonneg (R.kids i hin)]
  have hwi:wrap64 ((i:Int)+1)=((i+1:Nat):Int):=by rw [w64 (by omega) (by omega)];rfl
  rw [spec_l4Parents.L0_eq,if_pos (by omega),if_pos (by omega),if_pos (by rw [ho];omega),Option.bind_some,Int.toNat_natCast]
  rcases hi with ⟨rfl,rfl⟩|⟨h0,hop,hhd⟩
  ·have e0:((stkA []).length:Int)=0:=rfl
   rw [if_neg (by rw [e0];omega),spec_l4Parents.J1_eq,if_pos (by rw [stkA_len];simp),if_pos (by omega),if_pos (by omega),if_pos (by rw [stkC_len];simp),hk]
   have q1:stkA []++[((0:Nat):Int)]=stkA [(0,kdOf l 0)]:=rfl
   have q2:stkC []++[((kdOf l 0:Nat):Int)]=stkC [(0,kdOf l 0)]:=rfl
   rw [q1,q2,parents_pop _ _ _ _ (by simp),hwi]
   have hopen:Opened l 1 [(0,kdOf l 0)]:=.cons hin (Nat.le_refl _) (by rw [Nat.sub_self];exact .nil (by omega)) R.fits.one.2 (.nil rfl)
   refine parents_loop l R d (0+1) _ _ (by omega) (by rw [List.length_set];exact ho) (by have:=popC_len [(0,kdOf l 0)];simp at this;omega) (.inr ⟨by omega,popC_opened hopen,fun p r e=>popC_head e⟩) (fun j hj=>?_)
   have:j=0:=by omega
   subst this
   rw [rd_set_same _ _ _ (by omega),parI_none (par_zero l)]
  ·cases s with
   |nil=>
    cases hop with
    |nil h=>omega
   |cons p s=>
    obtain ⟨a,c⟩:=p
    simp only [List.length_cons] at hs
    have hc:c≠0:=hhd (a,c) s rfl
    cases hop with
    |@cons _ _ _ m _ h1 h2 h3 h4 h5=>
     have e1:((stkC ((a,c)::s)).length:Int)=s.length+1:=by rw [stkC_len];simp
     have e2:((stkA ((a,c)::s)).length:Int)=s.length+1:=by rw [stkA_len];simp
     have hw:wrap64 ((s.length:Int)+1 - 1)=(s.length:Int):=by rw [w64 (by omega) (by omega)];omega
     have hrA:rd (stkA ((a,c)::s)) (s.length:Int)=a:=by rw [stkA_cons,← stkA_len s];exact rd_last _ _
     have hrC:rd (stkC ((a,c)::s)) (s.length:Int)=c:=by rw [stkC_cons,← stkC_len s];exact rd_last _ _
     have hck:=h4.count
     have hcl:=h4.le
     have hwc:wrap64 ((c:Int) - 1)=((c - 1:Nat):Int):=by rw [w64 (by omega) (by omega)];omega
     rw [e1,e2,hw,if_pos (by omega),if_pos (by omega),if_pos (by omega),if_pos (by omega),if_pos (by omega),hrA,hrC,hwc]
     have t2:(stkC ((a,c)::s)).set ((s.length:Int)).toNat ((c - 1:Nat):Int)=stkC ((a,c - 1)::s):=by rw [stkC_cons,stkC_cons,← stkC_len s];exact set_last _ _ _
     have t1:stkA ((a,c)::s)=stkA ((a,c - 1)::s):=by rw [stkA_cons,stkA_cons]
     rw [t2,t1,spec_l4Parents.J1_eq,if_pos (by rw [stkA_len];simp;omega),if_pos (by omega),if_pos (by omega),if_pos (by rw [stkC_len];simp;omega),hk]
     have q1:stkA ((a,c - 1)::s)++[((i:Nat):Int)]=stkA ((i,kdOf l i)::(a,c - 1)::s):=(stkA_cons (i,kdOf l i) _).symm
     have q2:stkC ((a,c - 1)::s)++[((kdOf l i:Nat):Int)]=stkC ((i,kdOf l i)::(a,c - 1)::s):=(stkC_cons (i,kdOf l i) _).symm
     rw [q1,q2,parents_pop _ _ _ _ (by simp;omega),hwi]
     obtain ⟨b,rfl⟩:∃ b,c=b+1:=⟨c - 1,by omega⟩
     obtain ⟨_,m1,g1,g2⟩:=h4.open_
     have hopen:Opened l (i+1) ((i,kdOf l i)::(a,b+1 - 1)::s):=by
      refine .cons hin (Nat.le_refl _) (by rw [Nat.sub_self];exact .nil (by omega)) g1 (.cons h1 (by omega) ?_ (by rw [Nat.add_sub_cancel];exact g2) h5)
      rw [show kdOf l a - (b+1 - 1)=(kdOf l a - (b+1))+1 by omega]
      exact h3.join (Fits.mk1 hin g1)
     have hpar:par l i=some (a,kdOf l a - (b+1)):=par_some ⟨by omega,h3⟩
     refine parents_loop l R d (i+1) _ _ (by omega) (by rw [List.length_set,List.length_set];exact ho) (by have:=popC_len ((i,kdOf l i)::(a,b+1 - 1)::s);simp only [List.length_cons] at this;omega) (.inr ⟨by omega,popC_opened hopen,fun p r e=>popC_head e⟩) (fun j hj=>?_)
     by_cases e:j=i
     ·subst e
      rw [rd_set_same _ _ _ (by rw [List.length_set];omega),parI_some hpar]
     ·rw [rd_set_ne _ _ _ _ (fun x=>e x.symm),rd_set_ne _ _ _ _ (fun x=>e x.symm)]
      exact hp j (by omega)
theorem parents_is (l:List S59) (R:Right l):∃ P,spec_l4Parents.F l=some P∧P.length=l.length∧∀ j:Nat,j<l.length→rd P j=parI l j:=by
 have hl:=R.len4
 rw [spec_l4Parents.F_eq,if_pos (by omega),if_pos (by omega),Int.toNat_natCast]
 exact parents_loop l R l.length 0 _ [] (by omega) (by rw [List.length_replicate]) (Nat.le_refl _) (.inl ⟨rfl,rfl⟩) (fun j hj=>absurd hj (by omega))
/-! ### kids, and their numbers -/
def ints (ys:List Nat):List Int:=ys.map fun y:Nat=>(y:Int)
theorem kids_loop (l:List S59) (R:Right l) {i:Nat} (hi:i<l.length):∀ (d q m:Nat) (xs:List Int),q+d=kdOf l i→xs.length=q→Fits (kdOf l) l.length (i+1) q m→
  ∃ ys:List Nat,spec_l4KidsOf.L0 l (i:Nat) xs (m:Nat) (q:Nat)=some (xs++ints ys)∧ys.length=d∧∀ t y,ys[t]?=some y→Fits (kdOf l) l.length (i+1) (q+t) y
 |0,q,m,xs,hd,hx,h=>by
  have hk:(rd_T59 l (i:Nat)).f5=(kdOf l i:Int):=by unfold kdOf;rw [Int.toNat_of_nonneg (R.kids i hi)]
  rw [spec_l4KidsOf.L0_eq,if_pos (by omega),if_pos (by omega),hk,if_neg (by omega)]
  exact ⟨[],by show some xs=some (xs++[]);rw [List.append_nil],rfl,fun t y e=>by simp at e⟩
 |d+1,q,m,xs,hd,hx,h=>by
  have hk:(rd_T59 l (i:Nat)).f5=(kdOf l i:Int):=by unfold kdOf;rw [Int.toNat_of_nonneg (R.kids i hi)]
  obtain ⟨e,fe,_⟩:=R.fits.inner (Nat.zero_le i) hi
  have hl:=R.len4
  have hce:=fe.count
  have hle:=fe.le
  obtain ⟨m1,g1,g2⟩:=(show Fits (kdOf l) l.length (i+1) (q+(d+1)) e from by rw [hd];exact fe).split
  have:=g1.det h
  subst this
  obtain ⟨hm,m2,k1,k2⟩:=g2.open_
  rw [spec_l4KidsOf.L0_eq,if_pos (by omega),if_pos (by omega),hk,if_pos (by omega),if_pos (by omega),skip_is R (Fits.mk1 hm k1),Option.bind_some,w64 (by omega) (by omega),show (q:Int)+1=((q+1:Nat):Int) by omega]
  obtain ⟨ys,h1,h2,h3⟩:=kids_loop l R hi d (q+1) m2 (xs++[(m1:Int)]) (by omega) (by rw [List.length_append,hx];rfl) (h.join (Fits.mk1 hm k1))
  refine ⟨m1::ys,by rw [h1,List.append_assoc];rfl,by rw [List.length_cons,h2],fun t y e=>?_⟩
  cases t with
  |zero=>
   have:m1=y:=by simpa using e
   rw [← this]
   exact h
  |succ t=>
   have:=h3 t y (by simpa using e)
   rw [show q+(t+1)=q+1+t by omega]
   exact this
theorem kids_is (l:List S59) (R:Right l) {i:Nat} (hi:i<l.length):∃ ys:List Nat,spec_l4KidsOf.F l (i:Nat)=some (ints ys)∧ys.length=kdOf l i∧∀ t y,ys[t]?=some y→Fits (kdOf l) l.length (i+1) t y:=by
 have hl:=R.len4
 rw [spec_l4KidsOf.F_eq,w64 (by omega) (by omega),show (i:Int)+1=((i+1:Nat):Int) by omega]
 obtain ⟨ys,h1,h2,h3⟩:=kids_loop l R hi (kdOf l i) 0 (i+1) [] (by omega) rfl (.nil (by omega))
 refine ⟨ys,h1,h2,fun t y e=>?_⟩
 have:=h3 t y e
 rwa [Nat.zero_add] at this
theorem find_is (ys:List Nat) (j q:Nat) (hl:ys.length≤4000) (hq:ys[q]?=some j) (hn:∀ t:Nat,t<q→ys[t]?≠some j):∀ d t:Nat,t+d=q→spec_l3Find.L0 (ints ys) (j:Nat) (t:Nat)=some (q:Int)
 |0,t,hd=>by
  have:t=q:=by omega
  subst this
  have hlt:=(List.getElem?_eq_some_iff.1 hq).1
  have hr:rd (ints ys) (t:Nat)=(j:Int):=by
   unfold rd ints
   rw [Int.toNat_natCast,List.getD_eq_getElem?_getD,List.getElem?_map,hq]
   rfl
  rw [spec_l3Find.L0_eq,if_pos (by unfold ints;rw [List.length_map];omega),if_pos (by omega),if_pos hr]
 |d+1,t,hd=>by
  have hlt:=(List.getElem?_eq_some_iff.1 hq).1
  have hr:rd (ints ys) (t:Nat)≠(j:Int):=by
   intro e
   unfold rd ints at e
   rw [Int.toNat_natCast,List.getD_eq_getElem?_getD,List.getElem?_map,List.getElem?_eq_getElem (by omega)] at e
   have e:((ys[t]'(by omega):Nat):Int)=j:=e
   exact hn t (by omega) (by rw [List.getElem?_eq_getElem (by omega)];congr 1;omega)
  rw [spec_l3Find.L0_eq,if_pos (by unfold ints;rw [List.length_map];omega),if_pos (by omega),if_neg hr,w64 (by omega) (by omega),show (t:Int)+1=((t+1:Nat):Int) by omega]
  exact find_is ys j q hl hq hn d (t+1) (by omega)
theorem number_is (l:List S59) (R:Right l) {i q j:Nat} (hi:i<l.length) (h:KidAt (kdOf l) l.length i q j):spec_l5Number.F l (i:Nat) (j:Nat)=some (q:Int):=by
 obtain ⟨ys,h1,h2,h3⟩:=kids_is l R hi
 obtain ⟨e,fe,_⟩:=R.fits.inner (Nat.zero_le i) hi
 have hl:=R.len4
 have hce:=fe.count
 have hle:=fe.le
 have hq:q<ys.length:=by rw [h2];exact h.1
 have hyq:ys[q]?=some j:=by
  rw [List.getElem?_eq_getElem hq]
  exact congrArg some ((h3 q _ (List.getElem?_eq_getElem hq)).det h.2)
 rw [spec_l5Number.F_eq,h1,Option.bind_some,spec_l3Find.F_eq]
 have:=find_is ys j q (by omega) hyq (fun t ht e=>by
  have:=(h3 t j e).mono_lt h.2 ht
  omega) q 0 (by omega)
 rw [show ((0:Nat):Int)=0 from rfl] at this
 rw [this,Option.bind_some]
end Go.Proofs.Ytbogfagafdokeaa.QFnExactRangeText
