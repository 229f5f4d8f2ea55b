/- impl.growAt: it grows the twigs of a node and of all that is in it. -/
import Derived.Test.YtbogfagafdokeaaTwig
namespace Go.Proofs.Ytbogfagafdokeaa.QFnExactRangeText
open Go Go.RowKit Go.Proofs.YtbogfagafdokeaaV.PrintWords Go.Proofs.YtbogfagafdokeaaV.PrintLast Go.Proofs.YtbogfagafdokeaaV.PrintMore Go.Proofs.Ytbogfagafdokeaa.TreeIx
set_option linter.unusedVariables false
set_option linter.unusedSimpArgs false
structure Args (w0:World) (ad:Addr) (l:List S59) (va:Nat→Value):Prop where
  c0:∀ j,j<l.length→w0.cell? (ad.add (j*6))=some (.int .i64 (rd_T59 l (j:Nat)).f0)
  c1:∀ j,j<l.length→w0.cell? ⟨(ad.add (j*6)).block,(ad.add (j*6)).off+1,none⟩=some (.int .i64 (rd_T59 l (j:Nat)).f1)
  c2:∀ j,j<l.length→w0.cell? ⟨(ad.add (j*6)).block,(ad.add (j*6)).off+2,none⟩=some (.string (rd_T59 l (j:Nat)).f2)
  c3:∀ j,j<l.length→w0.cell? ⟨(ad.add (j*6)).block,(ad.add (j*6)).off+3,none⟩=some (va j)
  c4:∀ j,j<l.length→w0.cell? ⟨(ad.add (j*6)).block,(ad.add (j*6)).off+4,none⟩=some (.string (rd_T59 l (j:Nat)).f4)
  c5:∀ j,j<l.length→w0.cell? ⟨(ad.add (j*6)).block,(ad.add (j*6)).off+5,none⟩=some (.int .i64 (rd_T59 l (j:Nat)).f5)
  sl:∀ j,j<l.length→∃ A3 c3,va j=.slice A3 (rd_T59 l (j:Nat)).f3.length c3∧(rd_T59 l (j:Nat)).f3.length≤c3∧k99.C w0 A3 (rd_T59 l (j:Nat)).f3.length (rd_T59 l (j:Nat)).f3
theorem args_of_C {w:World} {A:Option Addr} {l:List S59} (h:Kd.C k59 w A l.length l) (h1:1≤l.length):∃ ad va,A=some ad∧Args w ad l va:=by
  obtain ⟨ad,_,_,hA,_⟩:=at_T59 h 0 (by omega) (by omega)
  refine ⟨ad,fun j=>(w.cell? ⟨(ad.add (j*6)).block,(ad.add (j*6)).off+3,none⟩).getD undef,hA,?_⟩
  have key:∀ j:Nat,j<l.length→∃ A3 c3,w.cell? (ad.add (j*6))=some (.int .i64 (rd_T59 l (j:Nat)).f0)∧w.cell? ⟨(ad.add (j*6)).block,(ad.add (j*6)).off+1,none⟩=some (.int .i64 (rd_T59 l (j:Nat)).f1)∧w.cell? ⟨(ad.add (j*6)).block,(ad.add (j*6)).off+2,none⟩=some (.string (rd_T59 l (j:Nat)).f2)∧w.cell? ⟨(ad.add (j*6)).block,(ad.add (j*6)).off+3,none⟩=some (.slice A3 (rd_T59 l (j:Nat)).f3.length c3)∧w.cell? ⟨(ad.add (j*6)).block,(ad.add (j*6)).off+4,none⟩=some (.string (rd_T59 l (j:Nat)).f4)∧w.cell? ⟨(ad.add (j*6)).block,(ad.add (j*6)).off+5,none⟩=some (.int .i64 (rd_T59 l (j:Nat)).f5)∧(rd_T59 l (j:Nat)).f3.length≤c3∧k99.C w A3 (rd_T59 l (j:Nat)).f3.length (rd_T59 l (j:Nat)).f3:=by
    intro j hj
    obtain ⟨ad',A3,c3,e,h0,h1,h2,h3,h4,h5,h6,h7⟩:=at_T59 h (j:Int) (by omega) (by omega)
    have:ad'=ad:=Option.some.inj (e.symm.trans hA)
    subst this
    rw [Int.toNat_natCast] at h0 h1 h2 h3 h4 h5
    exact ⟨A3,c3,h0,h1,h2,h3,h4,h5,h6,h7⟩
  exact
  { c0:=fun j hj=>(key j hj).choose_spec.choose_spec.1
    c1:=fun j hj=>(key j hj).choose_spec.choose_spec.2.1
    c2:=fun j hj=>(key j hj).choose_spec.choose_spec.2.2.1
    c3:=fun j hj=>by
      obtain ⟨A3,c3,_,_,_,h,_⟩:=key j hj
      rw [h]
      rfl
    c4:=fun j hj=>(key j hj).choose_spec.choose_spec.2.2.2.2.1
    c5:=fun j hj=>(key j hj).choose_spec.choose_spec.2.2.2.2.2.1
    sl:=fun j hj=>by
      obtain ⟨A3,c3,_,_,_,h,_,_,h6,h7⟩:=key j hj
      rw [h]
      exact ⟨A3,c3,rfl,h6,h7⟩ }
def kdOf (l:List S59) (j:Nat):Nat:=(rd_T59 l (j:Nat)).f5.toNat
def Done (l:List S59) (G:Gh) (j:Nat):Prop:=(G.kl j).length=kdOf l j∧∀ q c,(G.kl j)[q]?=some c→Fits (kdOf l) l.length (j+1) q c∧G.up c=.pointer (some ⟨G.b j,0,none⟩)∧G.pl c=q
structure Grew (w0 W:World) (l:List S59) (va:Nat→Value) (ga gl i e:Nat) (up:Option Addr) (G:Gh) (w':World) (lc':Value) (G':Gh):Prop where
  bel:Below w0.heap.size w0 w'
  kept:Kept W w' (fun k=>(G.f k).1≠0)
  fst:∀ k,k<W.heap.size→G'.f k=G.f k
  st:ST w' w0.heap.size l va ga gl e (e:Nat) lc' lc' e G'
  vr:∀ j,j<e→G'.v j=G'.r j
  same:∀ j,j<i→G'.b j=G.b j∧G'.up j=G.up j∧G'.pl j=G.pl j∧G'.kl j=G.kl j∧G'.v j=G.v j
  upi:G'.up i=.pointer up
  pli:G'.pl i=0
  done:∀ j,i≤j→j<e→Done l G' j
def GrowPost (w0 W:World) (l:List S59) (va:Nat→Value) (ga gl i e:Nat) (up:Option Addr) (G:Gh) (ed:Ending) (w':World):Prop:=
  ∃ lc' G',ed=.returned (.pointer (some ⟨G'.b i,0,none⟩))∧Grew w0 W l va ga gl i e up G w' lc' G'
structure GI (w0 W1:World) (l:List S59) (va:Nat→Value) (ga gl i e g:Nat) (up:Option Addr) (G0:Gh) (q m:Nat) (lc:Value) (G:Gh) (w:World):Prop where
  bel:Below w0.heap.size w0 w
  kept:Kept W1 w (fun k=>(G0.f k).1≠0)
  fst:∀ k,k<W1.heap.size→G.f k=G0.f k
  st:ST w w0.heap.size l va ga gl m (m:Nat) lc lc m G
  vr:∀ j,j<m→G.v j=G.r j
  same:∀ j,j<i→G.b j=G0.b j∧G.up j=G0.up j∧G.pl j=G0.pl j∧G.kl j=G0.kl j∧G.v j=G0.v j
  upi:G.up i=.pointer up
  pli:G.pl i=0
  bi:G.b i=g
  him:i<m
  qle:q≤kdOf l i
  kli:(G.kl i).length=q
  kids:∀ p c,(G.kl i)[p]?=some c→Fits (kdOf l) l.length (i+1) p c∧G.up c=.pointer (some ⟨g,0,none⟩)∧G.pl c=p
  done:∀ j,i<j→j<m→Done l G j
  fit1:Fits (kdOf l) l.length (i+1) q m
  fit2:Fits (kdOf l) l.length m (kdOf l i - q) e
section
variable {w0 W W1 w w1:World} {l:List S59} {va:Nat→Value} {ga gl i e g q m m':Nat} {up:Option Addr} {G0 G G1:Gh} {lc lc1:Value}
theorem GI.start (h:ST W w0.heap.size l va ga gl i (i:Nat) lc lc i G0) (hvr:∀ j,j<i→G0.v j=G0.r j) (hB:Below w0.heap.size w0 W) {W1:World} (hb1:Below W.heap.size W W1) {W2:World} (hb2:Below W1.heap.size W1 W2)
    (hg:W2.heap[W1.heap.size]?=some (.cells (twigCells (rd_T59 l (i:Nat)) (va i) (.slice none 0 0) (.pointer up) 0) 80 (0,0))) {W3:World} (e3:W3=W2.setCell ⟨ga,0,none⟩ (.int .i64 ((i:Int)+1))) {W4:World} {v1:Value} {ok:Nat→Prop}
    (hs:ST W3 w0.heap.size l va ga gl (i+1) ((i:Int)+1) lc lc i { b:=upd G0.b i W1.heap.size,up:=upd G0.up i (.pointer up),pl:=upd G0.pl i 0,kl:=upd G0.kl i [],v:=upd G0.v i (.slice none 0 0),r:=upd G0.r i (.slice none 0 0),f:=upd G0.f W1.heap.size (1,i) })
    (hR:PRow W4 w0.heap.size ok v1 ((List.range i).map (upd G0.b i W1.heap.size)++[W1.heap.size])) (hgr:W3.grownBy W4 lc.ownBlock) (hat:v1.ownBlock=lc.ownBlock ∨ ∃ b,v1.ownBlock=some b∧W3.heap.size≤b)
    (hB4:Below w0.heap.size w0 W4) (hi:i<l.length) (hfit:Fits (kdOf l) l.length (i+1) (kdOf l i) e) :
    GI w0 W1 l va ga gl i e W1.heap.size up G0 0 (i+1) v1 { b:=upd G0.b i W1.heap.size,up:=upd G0.up i (.pointer up),pl:=upd G0.pl i 0,kl:=upd G0.kl i [],v:=upd G0.v i (.slice none 0 0),r:=upd G0.r i (.slice none 0 0),f:=tagged (upd G0.f W1.heap.size (1,i)) v1 (3,0) } (W4.setCell ⟨gl,0,none⟩ v1):=by
  have h5:=(hs.appList (ok:=ok) (by omega) (show PRow W4 w0.heap.size ok v1 ((List.range i).map (upd G0.b i W1.heap.size)++[upd G0.b i W1.heap.size i]) from by rw [upd_same];exact hR) hgr hat).setList v1
  have hsz:W3.heap.size=W2.heap.size:=by rw [e3];simp [World.setCell]
  have hW2:W1.heap.size≤W2.heap.size:=hb2.size
  have htag:∀ k,k<W1.heap.size→tagged (upd G0.f W1.heap.size (1,i)) v1 (3,0) k=G0.f k:=fun k hk=>
    (tagged_old hs hgr (fun k hk'=>hs.lrow.1 k hk') hat (by rw [hsz];omega)).trans (upd_ne _ _ (by omega))
  exact
  { bel:=hB4.setCell (show w0.heap.size≤gl from h.lb.1) _
    kept:=by
      have k1:Kept W1 W3 (fun k=>(G0.f k).1≠0):=by rw [e3];exact (Kept.of_below hb2 _).setCell (.inl (by rw [show (⟨ga,0,none⟩:Addr).block=ga from rfl,h.ab.2];decide)) _
      have k2:Kept W3 W4 (fun k=>some k=lc.ownBlock):=⟨hgr.size,fun k hk hn=>hgr.block k hk hn⟩
      refine (k1.then_ k2 (fun k hk=>?_)).setCell (.inl (by rw [show (⟨gl,0,none⟩:Addr).block=gl from rfl,h.lb.2];decide)) _
      have:=h.lrow.1 k hk.symm
      exact .inl (by rw [this];decide)
    fst:=htag
    st:=h5
    vr:=fun j hj=>by
      show upd G0.v i _ j=upd G0.r i _ j
      by_cases e:j=i
      · subst e
        rw [upd_same,upd_same]
      · rw [upd_ne _ _ e,upd_ne _ _ e]
        exact hvr j (by omega)
    same:=fun j hj=>⟨upd_ne _ _ (by omega),upd_ne _ _ (by omega),upd_ne _ _ (by omega),upd_ne _ _ (by omega),upd_ne _ _ (by omega)⟩
    upi:=upd_same _ _ _
    pli:=upd_same _ _ _
    bi:=upd_same _ _ _
    him:=by omega
    qle:=Nat.zero_le _
    kli:=by show (upd G0.kl i [] i).length=0;rw [upd_same];rfl
    kids:=fun p c hp=>by
      have hp:(upd G0.kl i [] i)[p]?=some c:=hp
      rw [upd_same] at hp
      simp at hp
    done:=fun j h1 h2=>by omega
    fit1:=.nil (by omega)
    fit2:=hfit }
theorem GI.step (h:GI w0 W1 l va ga gl i e g up G0 q m lc G w) (hq:q<kdOf l i) (hfit:Fits (kdOf l) l.length (m+1) (kdOf l m) m') (hm:m<l.length) (hr:Grew w0 w l va ga gl m m' (some ⟨g,0,none⟩) G w1 lc1 G1)
    {w3:World} {v1:Value} {ok:Nat→Prop} (hR:PRow w3 w0.heap.size ok v1 ((G1.kl i).map G1.b++[G1.b m])) (hg:(w1.setCell ⟨G1.b m,8,none⟩ (.int .i64 q)).grownBy w3 (G1.r i).ownBlock)
    (hat:v1.ownBlock=(G1.r i).ownBlock ∨ ∃ b,v1.ownBlock=some b∧(w1.setCell ⟨G1.b m,8,none⟩ (.int .i64 q)).heap.size≤b) (hB3:Below w0.heap.size w0 w3) :
    ∃ G4,GI w0 W1 l va ga gl i e g up G0 (q+1) m' lc1 G4 (w3.setCell ⟨g,6,none⟩ v1):=by
  have him:=h.him
  have hmm:m<m':=(Fits.mk1 hm hfit).lt
  have hs:=hr.same i him
  have hbi:G1.b i=g:=hs.1.trans h.bi
  have s2:=hr.st.setTwig hmm 8 (.int .i64 q) (G1.v m) q rfl
  have s3:=s2.appKid (i:=i) (q:=m) (by omega) hmm (ok:=ok) hR hg hat
  have s4:=s3.setTwig (j:=i) (by omega) 6 v1 v1 (upd G1.pl m q i) rfl
  have e6:(⟨G1.b i,6,none⟩:Addr)=⟨g,6,none⟩:=by rw [hbi]
  have s4':ST (w3.setCell ⟨G1.b i,6,none⟩ v1) w0.heap.size l va ga gl m' (m':Nat) lc1 lc1 m' _:=s4
  rw [e6] at s4'
  have hsz:(w1.setCell ⟨G1.b m,8,none⟩ (.int .i64 q)).heap.size=w1.heap.size:=by simp [World.setCell]
  have hww:w.heap.size≤w1.heap.size:=hr.kept.1
  have hW1:W1.heap.size≤w.heap.size:=h.kept.1
  have hrow:=(hr.st.row i (by omega))
  have htag:∀ k,k<w1.heap.size→tagged G1.f v1 (2,i) k=G1.f k:=fun k hk=>tagged_old s2 hg (fun k hk'=>hrow.1 k hk') hat (by rw [hsz];exact hk)
  have hkl:G1.kl i=G.kl i:=hs.2.2.2.1
  have hkd:∀ j c p,j<m'→(G1.kl j)[p]?=some c→c<m':=fun j c p hj hp=>hr.st.kin j hj c (List.mem_of_getElem? hp)
  have hb0:w0.heap.size≤g:=by rw [← hbi];exact (hr.st.tb i (by omega)).1
  have hbm0:w0.heap.size≤G1.b m:=(hr.st.tb m hmm).1
  refine ⟨_,{ bel:=?_,kept:=?_,fst:=?_,st:=s4',vr:=?_,same:=?_,upi:=?_,pli:=?_,bi:=?_,him:=by omega,qle:=by omega,kli:=?_,kids:=?_,done:=?_,fit1:=?_,fit2:=?_ }⟩
  · exact hB3.setCell (show w0.heap.size≤(⟨g,6,none⟩:Addr).block from hb0) _
  · have kk:∀ k,k<W1.heap.size→(G1.f k).1≠0→(G0.f k).1≠0:=fun k hk hn=>by rw [hr.fst k (by omega),h.fst k hk] at hn;exact hn
    refine ⟨by have:=hg.size;have:(w3.setCell ⟨g,6,none⟩ v1).heap.size=w3.heap.size:=by simp [World.setCell]
               omega,fun k hk hn=>?_⟩
    have n1:k≠g:=fun c=>hn (kk k hk (by rw [c,← hbi,(hr.st.tb i (by omega)).2];simp))
    have n2:some k≠(G1.r i).ownBlock:=fun c=>hn (kk k hk (by rw [hrow.1 k c.symm];simp))
    have n3:k≠G1.b m:=fun c=>hn (kk k hk (by rw [c,(hr.st.tb m hmm).2];simp))
    have e1:=Below.heap_setCell w3 ⟨g,6,none⟩ v1 k n1
    have e2:=hg.block k (by rw [hsz];omega) n2
    have e3:=Below.heap_setCell w1 ⟨G1.b m,8,none⟩ (.int .i64 q) k n3
    have e4:=hr.kept.2 k (by omega) (by show ¬ (G.f k).1≠0;rw [h.fst k hk];exact hn)
    have e5:=h.kept.2 k hk hn
    exact e1.trans (e2.trans (e3.trans (e4.trans e5)))
  · intro k hk
    exact (htag k (by omega)).trans ((hr.fst k (by omega)).trans (h.fst k hk))
  · intro j hj
    show upd (upd G1.v m (G1.v m)) i v1 j=upd G1.r i v1 j
    by_cases e:j=i
    · subst e
      rw [upd_same,upd_same]
    · rw [upd_ne _ _ e,upd_ne _ _ e,← hr.vr j hj]
      by_cases e2:j=m
      · subst e2
        rw [upd_same]
      · rw [upd_ne _ _ e2]
  · intro j hj
    have a:=hr.same j (by omega)
    have b:=h.same j hj
    refine ⟨a.1.trans b.1,a.2.1.trans b.2.1,?_,?_,?_⟩
    · show upd (upd G1.pl m q) i (upd G1.pl m q i) j=_
      rw [upd_ne _ _ (by omega),upd_ne _ _ (by omega)]
      exact a.2.2.1.trans b.2.2.1
    · show upd G1.kl i _ j=_
      rw [upd_ne _ _ (by omega)]
      exact a.2.2.2.1.trans b.2.2.2.1
    · show upd (upd G1.v m (G1.v m)) i v1 j=_
      rw [upd_ne _ _ (by omega),upd_ne _ _ (by omega)]
      exact a.2.2.2.2.trans b.2.2.2.2
  · exact hs.2.1.trans h.upi
  · show upd (upd G1.pl m q) i (upd G1.pl m q i) i=0
    rw [upd_same,upd_ne _ _ (by omega)]
    exact hs.2.2.1.trans h.pli
  · exact hbi
  · show (upd G1.kl i (G1.kl i++[m]) i).length=q+1
    rw [upd_same,List.length_append,hkl,h.kli]
    rfl
  · intro p c hp0
    have hp:(upd G1.kl i (G1.kl i++[m]) i)[p]?=some c  :=hp0
    clear hp0
    rw [upd_same,hkl] at hp
    show _∧G1.up c=_∧upd (upd G1.pl m q) i (upd G1.pl m q i) c=p
    by_cases e:p<q
    · rw [List.getElem?_append_left (by rw [h.kli];exact e)] at hp
      obtain ⟨k1,k2,k3⟩:=h.kids p c hp
      have hc:c<m:=h.st.kin i him c (List.mem_of_getElem? hp)
      have hci:=k1.le
      have a:=hr.same c hc
      rw [upd_ne _ _ (by omega),upd_ne _ _ (by omega)]
      exact ⟨k1,a.2.1.trans k2,a.2.2.1.trans k3⟩
    · have hpq:p=q:=by
        have:=(List.getElem?_eq_some_iff.1 hp).1
        rw [List.length_append,h.kli,List.length_singleton] at this
        omega
      subst hpq
      have hcm:c=m:=by
        have e1:(G.kl i++[m])[p]?=some m:=by
          rw [List.getElem?_append_right (by rw [h.kli];exact Nat.le_refl _),h.kli,Nat.sub_self]
          rfl
        exact Option.some.inj (hp.symm.trans e1)
      subst hcm
      rw [upd_ne _ _ (by omega),upd_same]
      exact ⟨h.fit1,hr.upi,rfl⟩
  · intro j h1 h2
    have hd:Done l G1 j:=by
      by_cases e:j<m
      · obtain ⟨d1,d2⟩:=h.done j h1 e
        have a:=hr.same j e
        refine ⟨by rw [a.2.2.2.1];exact d1,fun p c hp=>?_⟩
        rw [a.2.2.2.1] at hp
        have hc:c<m:=h.st.kin j e c (List.mem_of_getElem? hp)
        obtain ⟨k1,k2,k3⟩:=d2 p c hp
        have b:=hr.same c hc
        exact ⟨k1,by rw [b.2.1,a.1];exact k2,by rw [b.2.2.1];exact k3⟩
      · exact hr.done j (by omega) h2
    obtain ⟨d1,d2⟩:=hd
    refine ⟨by show (upd G1.kl i _ j).length=_;rw [upd_ne _ _ (by omega)];exact d1,fun p c hp=>?_⟩
    have hp:(upd G1.kl i (G1.kl i++[m]) j)[p]?=some c:=hp
    rw [upd_ne _ _ (by omega)] at hp
    obtain ⟨k1,k2,k3⟩:=d2 p c hp
    refine ⟨k1,k2,?_⟩
    show upd (upd G1.pl m q) i (upd G1.pl m q i) c=p
    have:=k1.le
    have hcm:c≠m:=by
      intro cm
      subst cm
      have e1:=hr.upi
      rw [k2] at e1
      injection e1 with e1
      injection e1 with e1
      injection e1 with e1
      have t1:=(hr.st.tb j h2).2
      have t2:=(hr.st.tb i (by omega)).2
      rw [e1,← hbi,t2] at t1
      injection t1 with _ t1
      omega
    rw [upd_ne _ _ (by omega),upd_ne _ _ hcm]
    exact k3
  · exact h.fit1.join (Fits.mk1 hm hfit)
  · have h2:=h.fit2
    obtain ⟨a,ha⟩:∃ a,kdOf l i - q=a+1:=⟨kdOf l i - q - 1,by omega⟩
    rw [ha] at h2
    obtain ⟨_,x,f1,f2⟩:=h2.open_
    have:=f1.det hfit
    subst this
    rw [show kdOf l i - (q+1)=a by omega]
    exact f2
theorem GI.end_ (h:GI w0 W1 l va ga gl i e g up G0 q m lc G w) (hq:¬ q<kdOf l i) (hb:Below W.heap.size W W1):Grew w0 W l va ga gl i e up G0 w lc G:=by
  have hle:m=e:=by
    have h2:=h.fit2
    rw [show kdOf l i - q=0 by omega] at h2
    exact h2.zero
  subst hle
  have hqk:q=kdOf l i:=by have:=h.qle;omega
  exact
  { bel:=h.bel
    kept:=⟨Nat.le_trans hb.size h.kept.1,fun k hk hn=>(h.kept.2 k (Nat.lt_of_lt_of_le hk hb.size) hn).trans (hb.block k hk)⟩
    fst:=fun k hk=>h.fst k (Nat.lt_of_lt_of_le hk hb.size)
    st:=h.st
    vr:=h.vr
    same:=h.same
    upi:=h.upi
    pli:=h.pli
    done:=fun j h1 h2=>by
      by_cases c:j=i
      · subst c
        exact ⟨h.kli.trans hqk,fun p c hp=>by
          obtain ⟨k1,k2,k3⟩:=h.kids p c hp
          exact ⟨k1,by rw [h.bi];exact k2,k3⟩⟩
      · exact h.done j (by omega) h2 }
end
end Go.Proofs.Ytbogfagafdokeaa.QFnExactRangeText
