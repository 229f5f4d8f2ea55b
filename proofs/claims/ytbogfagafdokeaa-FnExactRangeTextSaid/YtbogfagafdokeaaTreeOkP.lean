import Derived.Test.YtbogfagafdokeaaFFnExactRangeText
import Derived.Test.YtbogfagafdokeaaLoops
import Derived.Test.YtbogfagafdokeaaTells
import Derived.Test.YtbogfagafdokeaaBytes
namespace Go.Proofs.Ytbogfagafdokeaa.QFnExactRangeText
open Go Go.RowKit Go.Proofs.YtbogfagafdokeaaV.PrintWords Go.Proofs.YtbogfagafdokeaaV.PrintLast Go.Proofs.YtbogfagafdokeaaV.PrintMore Go.Proofs.Ytbogfagafdokeaa.Val Go.Proofs.Ytbogfagafdokeaa.MapObj
set_option linter.unusedVariables false
set_option linter.unusedSimpArgs false
/-! ### attributes -/
def AttrsP (l:List S99) (i:Nat):Prop:=∀ n,i≤n→n<l.length→(rd_T99 l n).f0.toList≠[]∧∀ j,j<n→(rd_T99 l j).f0≠(rd_T99 l n).f0
theorem AttrsP.step {l:List S99} {i:Nat} (hi:i<l.length) (h1:(rd_T99 l i).f0.toList≠[]) (h2:∀ j,j<i→(rd_T99 l j).f0≠(rd_T99 l i).f0):AttrsP l (i+1)↔AttrsP l i:=by
 constructor
 ·intro h n hn hl
  by_cases e:n=i
  ·subst e
   exact ⟨h1,h2⟩
  ·exact h n (by omega) hl
 ·intro h n hn hl
  exact h n (by omega) hl
theorem has_tells (l:List S99) (s:ByteArray) (hl:l.length≤1048576):∀ (d i:Nat),i+d=l.length→Tells (spec_l2Has.L0 l s i) (∃ j,i≤j∧j<l.length∧(rd_T99 l j).f0=s)
 |0,i,h=>by
  rw [spec_l2Has.L0_eq,if_neg (by omega)]
  exact Tells.no (fun ⟨j,h1,h2,_⟩=>by omega)
 |d+1,i,h=>by
  rw [spec_l2Has.L0_eq,if_pos (by omega),if_pos (by omega)]
  refine Tells.ite (fun e=>?_) (fun e=>?_)
  ·exact Tells.yes ⟨i,Nat.le_refl _,by omega,toList_inj.1 e⟩
  ·rw [w64 (by omega) (by omega)]
   refine (has_tells l s hl d (i+1) (by omega)).congr ⟨fun ⟨j,h1,h2,h3⟩=>⟨j,by omega,h2,h3⟩,fun ⟨j,h1,h2,h3⟩=>⟨j,?_,h2,h3⟩⟩
   by_cases c:j=i
   ·subst c
    exact absurd (toList_inj.2 h3) e
   ·omega
theorem rd_take (l:List S99) (i j:Nat) (h:j<i) (hi:i≤l.length):rd_T99 (l.take i) j=rd_T99 l j:=by
 unfold rd_T99
 rw [Int.toNat_natCast,List.getD_eq_getElem?_getD,List.getD_eq_getElem?_getD,List.getElem?_take,if_pos h]
theorem attrs_spec (a0 a1:Int) (a2:ByteArray) (l:List S99) (a4:ByteArray) (a5:Int) (hl:l.length≤1048576):∀ (d i:Nat),i+d=l.length→
  Tells (spec_l3NodeOk.L0 i a0 a1 a2 l a4 a5) (AttrsP l i∧a2.toList≠[]∧a4.toList=[])
 |0,i,h=>by
  rw [spec_l3NodeOk.L0_eq,if_neg (by omega)]
  have hA:AttrsP l i:=fun n h1 h2=>by omega
  refine Tells.ite (fun e=>Tells.no (fun x=>x.2.1 e)) (fun e=>Tells.is ?_)
  simp [hA,e]
 |d+1,i,h=>by
  rw [spec_l3NodeOk.L0_eq,if_pos (by omega),if_pos (by omega)]
  refine Tells.ite (fun e=>Tells.no (fun x=>(x.1 i (Nat.le_refl _) (by omega)).1 e)) (fun e=>?_)
  rw [if_pos (by omega),Int.toNat_natCast,spec_l2Has.F_eq]
  have hk:(l.take i).length=i:=by rw [List.length_take];omega
  refine Tells.bind (has_tells (l.take i) _ (by omega) i 0 (by omega)) ?_ ?_
  ·rintro ⟨j,_,h2,h3⟩
   rw [hk] at h2
   rw [rd_take l i j h2 (by omega)] at h3
   rw [if_pos rfl]
   exact Tells.no (fun x=>(x.1 i (Nat.le_refl _) (by omega)).2 j h2 h3)
  ·intro hn
   rw [if_neg (by simp),w64 (by omega) (by omega)]
   have h2:∀ j,j<i→(rd_T99 l j).f0≠(rd_T99 l i).f0:=fun j hj c=>hn ⟨j,Nat.zero_le _,by omega,by rw [rd_take l i j hj (by omega)];exact c⟩
   exact (attrs_spec a0 a1 a2 l a4 a5 hl d (i+1) (by omega)).congr (and_congr_left' (AttrsP.step (by omega) e h2))
theorem attrs_impl (l:List S99) (hl:l.length≤1048576):∀ (d i:Nat) (seen:List ByteArray),i+d=l.length→(∀ s,s ∈ seen↔∃ j,j<i∧(rd_T99 l j).f0=s)→
  Tells (impl_attrsRight.L0 seen l l.length i) (AttrsP l i)
 |0,i,seen,h,hs=>by
  rw [impl_attrsRight.L0_eq,if_neg (by omega)]
  exact Tells.yes (fun n h1 h2=>by omega)
 |d+1,i,seen,h,hs=>by
  rw [impl_attrsRight.L0_eq,if_pos (by omega),if_pos (by omega),if_pos (by omega)]
  refine Tells.ite (fun e=>Tells.no (fun x=>(x i (Nat.le_refl _) (by omega)).1 e)) (fun e=>?_)
  refine Tells.ite (fun c=>?_) (fun c=>?_)
  ·obtain ⟨j,hj,h3⟩:=(hs _).1 (smem_iff.1 c)
   exact Tells.no (fun x=>(x i (Nat.le_refl _) (by omega)).2 j hj h3)
  ·rw [if_pos (Nat.zero_le _),w64 (by omega) (by omega)]
   have hn:¬ _ ∈ seen:=fun m=>c (smem_iff.2 m)
   have h2:∀ j,j<i→(rd_T99 l j).f0≠(rd_T99 l i).f0:=fun j hj q=>hn ((hs _).2 ⟨j,hj,q⟩)
   refine (attrs_impl l hl d (i+1) _ (by omega) (fun s=>?_)).congr (AttrsP.step (by omega) e h2)
   rw [List.mem_cons,hs s]
   constructor
   ·rintro (rfl|⟨j,hj,q⟩)
    ·exact ⟨i,by omega,rfl⟩
    ·exact ⟨j,by omega,q⟩
   ·rintro ⟨j,hj,q⟩
    by_cases c:j=i
    ·subst c
     exact .inl q.symm
    ·exact .inr ⟨j,by omega,q⟩
/-! ### a node -/
def NodeP (x:S59) (first:Bool):Prop:=0≤x.f0∧x.f0≤1000000∧(x.f1=1↔first=true)∧
 ((x.f1=1∧x.f2.toList=[]∧x.f4.toList=[]∧x.f3.length=0) ∨ (x.f1=2∧x.f2.toList≠[]∧x.f4.toList=[]∧AttrsP x.f3 0) ∨ (x.f1=3∧x.f2.toList=[]∧x.f4.toList≠[]∧x.f3.length=0∧x.f5=0) ∨
  (x.f1=4∧x.f2.toList=[]∧x.f3.length=0∧x.f5=0) ∨ (x.f1=5∧x.f4.toList=[]∧x.f3.length=0∧x.f5=0))
theorem flag_ne (k:Int) (first:Bool):((k==1) != first)=false↔(k=1↔first=true):=by
 cases first<;>by_cases e:k=1<;>simp [e]
theorem node_spec (x:S59) (first:Bool) (hl:x.f3.length≤1048576):Tells (spec_l3NodeOk.F x.f0 x.f1 x.f2 x.f3 x.f4 x.f5 first) (NodeP x first):=by
 rw [spec_l3NodeOk.F_eq]
 refine Tells.ite (fun e=>?_) (fun e=>Tells.ite (fun e2=>?_) (fun e2=>?_))
 ·rw [spec_l3NodeOk.J0_eq,if_pos rfl]
  exact Tells.no (fun h=>by have:=h.1;omega)
 ·rw [spec_l3NodeOk.J0_eq,if_pos rfl]
  exact Tells.no (fun h=>by have:=h.2.1;omega)
 ·rw [spec_l3NodeOk.J0_eq]
  refine Tells.flag (fun c=>Tells.no (fun h=>?_)) (fun c=>?_)
  ·rw [(flag_ne _ _).2 h.2.2.1] at c
   cases c
  ·have hk:=(flag_ne _ _).1 c
   have h0:0≤x.f0:=by omega
   have h1:x.f0≤1000000:=by omega
   unfold NodeP
   by_cases k1:x.f1=1
   ·rw [if_pos k1]
    refine Tells.ite (fun n=>Tells.ite (fun t=>Tells.is ?_) (fun t=>Tells.no ?_)) (fun n=>Tells.no ?_)
    ·have hft:=hk.1 k1
     simp [h0,h1,k1,n,t,hft]
    ·simp [k1,t]
    ·simp [k1,n]
   ·rw [if_neg k1]
    by_cases k2:x.f1=2
    ·rw [if_pos k2]
     refine (attrs_spec x.f0 x.f1 x.f2 x.f3 x.f4 x.f5 hl x.f3.length 0 (by omega)).congr ?_
     have hf:first=false:=by cases first with|true=>exact absurd (hk.2 rfl) k1|false=>rfl
     simp [h0,h1,hk,k2,hf]
     constructor
     ·exact fun h=>⟨h.2.1,h.2.2,h.1⟩
     ·exact fun h=>⟨h.2.2,h.1,h.2.1⟩
    ·rw [if_neg k2]
     have hf:first=false:=by cases first with|true=>exact absurd (hk.2 rfl) k1|false=>rfl
     by_cases k3:x.f1=3
     ·rw [if_pos k3]
      refine Tells.ite (fun n=>Tells.ite (fun t=>Tells.no ?_) (fun t=>Tells.ite (fun a=>Tells.is ?_) (fun a=>Tells.no ?_))) (fun n=>Tells.no ?_)
      ·simp [k3,t]
      ·have a':x.f3=[]:=List.eq_nil_of_length_eq_zero (by omega)
       simp [h0,h1,k3,hf,n,t,a']
      ·have a':¬ x.f3=[]:=fun h=>a (by rw [h];rfl)
       simp [k3,a']
      ·simp [k3,n]
     ·rw [if_neg k3]
      by_cases k4:x.f1=4
      ·rw [if_pos k4]
       refine Tells.ite (fun n=>Tells.ite (fun a=>Tells.is ?_) (fun a=>Tells.no ?_)) (fun n=>Tells.no ?_)
       ·have a':x.f3=[]:=List.eq_nil_of_length_eq_zero (by omega)
        simp [h0,h1,k4,hf,n,a']
       ·have a':¬ x.f3=[]:=fun h=>a (by rw [h];rfl)
        simp [k4,a']
       ·simp [k4,n]
      ·rw [if_neg k4]
       refine Tells.ite (fun k5=>Tells.ite (fun t=>Tells.ite (fun a=>Tells.is ?_) (fun a=>Tells.no ?_)) (fun t=>Tells.no ?_)) (fun k5=>Tells.no ?_)
       ·have a':x.f3=[]:=List.eq_nil_of_length_eq_zero (by omega)
        simp [h0,h1,k5,hf,t,a']
       ·have a':¬ x.f3=[]:=fun h=>a (by rw [h];rfl)
        simp [k5,a']
       ·simp [k5,t]
       ·simp [k1,k2,k3,k4,k5]
theorem node_impl (x:S59) (first:Bool) (hl:x.f3.length≤1048576):Tells (impl_nodeRight.F x.f0 x.f1 x.f2 x.f3 x.f4 x.f5 first) (NodeP x first∧0≤x.f5):=by
 rw [impl_nodeRight.F_eq]
 refine Tells.ite (fun e=>?_) (fun e=>Tells.ite (fun e2=>?_) (fun e2=>Tells.ite (fun e3=>?_) (fun e3=>?_)))
 ·rw [impl_nodeRight.J0_eq,if_pos rfl]
  exact Tells.no (fun h=>by have:=h.1.1;omega)
 ·rw [impl_nodeRight.J0_eq,if_pos rfl]
  exact Tells.no (fun h=>by have:=h.1.2.1;omega)
 ·rw [impl_nodeRight.J0_eq,if_pos rfl]
  exact Tells.no (fun h=>by omega)
 ·rw [impl_nodeRight.J0_eq]
  have hw:(first != (x.f1==1))=((x.f1==1) != first):=by cases first<;>cases (x.f1==1)<;>rfl
  rw [hw]
  have hK:0≤x.f5:=by omega
  have key:∀ {o:Option Bool},Tells o (NodeP x first)→Tells o (NodeP x first∧0≤x.f5):=fun h=>h.congr ⟨fun a=>⟨a,hK⟩,fun a=>a.1⟩
  apply key
  refine Tells.flag (fun c=>Tells.no (fun h=>?_)) (fun c=>?_)
  ·rw [(flag_ne _ _).2 h.2.2.1] at c
   cases c
  ·have hk:=(flag_ne _ _).1 c
   have h0:0≤x.f0:=by omega
   have h1:x.f0≤1000000:=by omega
   unfold NodeP
   by_cases k1:x.f1=1
   ·rw [if_pos k1]
    refine Tells.ite (fun n=>Tells.ite (fun a=>Tells.is ?_) (fun a=>Tells.no ?_)) (fun n=>Tells.no ?_)
    ·have a':x.f3=[]:=List.eq_nil_of_length_eq_zero (by omega)
     simp only [h0,h1,hk,k1,n,a'];simp
     exact fun _=>hk.1 k1
    ·have a':¬ x.f3=[]:=fun h=>a (by rw [h];rfl)
     simp [k1,a']
    ·simp [k1,n]
   ·rw [if_neg k1]
    have hf:first=false:=by cases first with|true=>exact absurd (hk.2 rfl) k1|false=>rfl
    by_cases k2:x.f1=2
    ·rw [if_pos k2]
     refine Tells.ite (fun n=>Tells.no ?_) (fun n=>Tells.ite (fun t=>?_) (fun t=>Tells.no ?_))
     ·simp [k2,n]
     ·rw [impl_attrsRight.F_eq]
      refine Tells.bind (attrs_impl x.f3 hl x.f3.length 0 [] (by omega) (fun s=>by simp)) (fun q=>Tells.yes ?_) (fun q=>Tells.no ?_)
      ·simp [h0,h1,k2,hf,n,t,q]
      ·simp [k2,q]
     ·simp [k2,t]
    ·rw [if_neg k2]
     by_cases k3:x.f1=3
     ·rw [if_pos k3]
      refine Tells.ite (fun t=>Tells.no ?_) (fun t=>Tells.ite (fun n=>Tells.ite (fun a=>Tells.is ?_) (fun a=>Tells.no ?_)) (fun n=>Tells.no ?_))
      ·simp [k3,t]
      ·have a':x.f3=[]:=List.eq_nil_of_length_eq_zero (by omega)
       simp [h0,h1,k3,hf,n,t,a']
      ·have a':¬ x.f3=[]:=fun h=>a (by rw [h];rfl)
       simp [k3,a']
      ·simp [k3,n]
     ·rw [if_neg k3]
      by_cases k4:x.f1=4
      ·rw [if_pos k4]
       refine Tells.ite (fun n=>Tells.ite (fun a=>Tells.is ?_) (fun a=>Tells.no ?_)) (fun n=>Tells.no ?_)
       ·have a':x.f3=[]:=List.eq_nil_of_length_eq_zero (by omega)
        simp [h0,h1,k4,hf,n,a']
       ·have a':¬ x.f3=[]:=fun h=>a (by rw [h];rfl)
        simp [k4,a']
       ·simp [k4,n]
      ·rw [if_neg k4]
       refine Tells.ite (fun k5=>Tells.ite (fun t=>Tells.ite (fun a=>Tells.is ?_) (fun a=>Tells.no ?_)) (fun t=>Tells.no ?_)) (fun k5=>Tells.no ?_)
       ·have a':x.f3=[]:=List.eq_nil_of_length_eq_zero (by omega)
        simp [h0,h1,k5,hf,t,a']
       ·have a':¬ x.f3=[]:=fun h=>a (by rw [h];rfl)
        simp [k5,a']
       ·simp [k5,t]
       ·simp [k1,k2,k3,k4,k5]
end Go.Proofs.Ytbogfagafdokeaa.QFnExactRangeText
