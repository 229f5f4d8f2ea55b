/- impl.grown: a right tree as twigs. -/
import Derived.Test.YtbogfagafdokeaaGrowAt
namespace Go.Proofs.Ytbogfagafdokeaa.QFnExactRangeText
open Go Go.RowKit Go.Proofs.YtbogfagafdokeaaV.PrintWords Go.Proofs.YtbogfagafdokeaaV.PrintLast Go.Proofs.YtbogfagafdokeaaV.PrintMore Go.Proofs.Ytbogfagafdokeaa.TreeIx
set_option linter.unusedVariables false
set_option linter.unusedSimpArgs false
structure Right (l:List S59):Prop where
  len1:1≤l.length
  len4:l.length≤4000
  kids:∀ j:Nat,j<l.length→0≤(rd_T59 l j).f5
  fits:Fits (kdOf l) l.length 0 1 l.length
  ids:∀ i j:Nat,i<j→j<l.length→(rd_T59 l i).f0≠(rd_T59 l j).f0
structure Gar (w0 W:World) (l:List S59) (va:Nat→Value) (G:Gh):Prop where
  tw:∀ j,j<l.length→W.heap[G.b j]?=some (.cells (twigCells (rd_T59 l (j:Nat)) (va j) (G.v j) (G.up j) (G.pl j)) 80 (0,0))
  row:∀ j,j<l.length→PRow W w0.heap.size (fun _=>True) (G.v j) ((G.kl j).map G.b)
  kin:∀ j,j<l.length→∀ q ∈ G.kl j,q<l.length
  done:∀ j,j<l.length→Done l G j
  up0:G.up 0=.pointer none
  pl0:G.pl 0=0
section
variable {w0 W W1:World} {l:List S59} {va:Nat→Value} {G:Gh}
theorem Gar.below (h:Gar w0 W l va G) (hb:Below W.heap.size W W1):Gar w0 W1 l va G:=
  ⟨fun j hj=>blk_below (h.tw j hj) hb,fun j hj=>(h.row j hj).below hb,h.kin,h.done,h.up0,h.pl0⟩
theorem ST.start {base ga gl:Nat} {lc:Value} {ok:Nat→Prop} (hga:W.heap[ga]?=some (.cells #[.int .i64 0] 3 (0,0))) (hgl:W.heap[gl]?=some (.cells #[lc] 73 (0,0))) (hl:PRow W base ok lc []) (b1:base≤ga) (b2:base≤gl) :
    ∃ G,ST W base l va ga gl 0 ((0:Nat):Int) lc lc 0 G:=by
  have hne:gl≠ga:=fun e=>by
    subst e
    rw [hga] at hgl
    injection hgl with h
    injection h with _ h
    exact absurd h (by decide)
  have hty:∀ k,lc.ownBlock=some k→k≠ga∧k≠gl∧k<W.heap.size:=fun k hk=>by
    obtain ⟨_,_,h3,c,h4⟩:=hl.typed hk
    refine ⟨fun e=>?_,fun e=>?_,h3⟩
    · subst e
      rw [hga] at h4
      injection h4 with h
      injection h with _ h
      exact absurd h (by decide)
    · subst e
      rw [hgl] at h4
      injection h4 with h
      injection h with _ h
      exact absurd h (by decide)
  refine ⟨⟨fun _=>0,fun _=>undef,fun _=>0,fun _=>[],fun _=>undef,fun _=>undef,fun k=>if k=ga then (4,0) else if k=gl then (5,0) else if lc.ownBlock=some k then (3,0) else (0,0)⟩,?_⟩
  exact
  { tw:=fun j hj=>by omega
    tb:=fun j hj=>by omega
    row:=fun j hj=>by omega
    kin:=fun j hj=>by omega
    at_:=hga
    ab:=⟨b1,if_pos rfl⟩
    ls:=hgl
    lb:=⟨b2,by show (if gl=ga then _ else _)=_;rw [if_neg hne,if_pos rfl]⟩
    lrow:=hl.re (fun k hk=>by
      obtain ⟨h1,h2,_⟩:=hty k hk
      show (if k=ga then _ else _)=_
      rw [if_neg h1,if_neg h2,if_pos hk])
    fr:=fun k hk=>by
      show (if k=ga then _ else _)=_
      rw [if_neg (fun e=>by have:=blk_lt hga;omega),if_neg (fun e=>by have:=blk_lt hgl;omega),if_neg (fun e=>by have:=(hty k e).2.2;omega)]
    cm:=Nat.le_refl _ }
theorem Grew.gar {ga gl:Nat} {lc:Value} {G0:Gh} (h:Grew w0 W l va ga gl 0 l.length none G0 W1 lc G):Gar w0 W1 l va G:=
  { tw:=h.st.tw
    row:=fun j hj=>by
      rw [h.vr j hj]
      exact (h.st.row j hj).re (fun _ _=>trivial)
    kin:=h.st.kin
    done:=fun j hj=>h.done j (Nat.zero_le _) hj
    up0:=h.upi
    pl0:=h.pli }
end
def GrownPost (w0:World) (l:List S59) (e:Ending) (w':World):Prop:=
  ∃ ad va G lv,e=.returned (.tuple #[.pointer (some ⟨G.b 0,0,none⟩),lv])∧Below w0.heap.size w0 w'∧Args w0 ad l va∧Gar w0 w' l va G∧PRow w' w0.heap.size (fun _=>True) lv ((List.range l.length).map G.b)
set_option maxHeartbeats 4000000 in
set_option maxRecDepth 100000 in
theorem grown_calls (w:World) (A0:Option Addr) (c0:Nat) (l:List S59) (hr:Kd.C k59 w A0 l.length l) (hc:l.length≤c0) (hR:Right l) :
    Calls Try.prog 33 #[.agg #[.slice A0 l.length c0]] w (GrownPost w l):=by
  obtain ⟨ad,va,rfl,hA⟩:=args_of_C hr hR.len1
  have HA:=Aside0.mk hA
  have HR:=Aside0.mk hR
  have HC:=Aside0.mk hc
  have hu57:=Try.underlying31
  clear hA hR hr hc
  go_enter Try.func33,Try.ntmps33
  go_wp2_with (first
    |((with_reducible refine gate_dst (N:=1) rfl ?_);refine box_event ?hg (N:=1) ?hd (cs:=#[.slice (some ad) l.length c0]) (t:=31) ?hr ?_;(case hd=>rfl);(case hg=>rfl);(case hr=>first|(go_simp;done)|(go_simp;rfl));intro gb hg w1 hbox hb1;have hcz:w1.cell? ⟨gb,0,none⟩=some (.slice (some ad) l.length c0):=(blk_cell hbox 0).trans rfl;have HB1:=Aside0.mk hb1;have HBX:=Aside0.mk hbox;clear hg hbox hb1)
    |((with_reducible refine gate_dst (N:=7) rfl ?_);(refine Kd.R_lit kp (w0:=w) w.heap.size 72 ?hg (N:=7) ?hd (xs:=([]:List Nat)) (inner:=[]) (ok:=fun _=>True) (okp:=fun _=>True) ?hr ?hp (fun _ hk=>hk) trivial ?hB ?hb (by simp) ?_;(case hd=>rfl);(case hg=>rfl);(case hr=>first|(go_simp;done)|(go_simp;rfl));(case hp=>exact Reps.none _ _);(case hB=>exact HB1.out);(case hb=>exact HB1.out.size);intro v2 w2 ho hb2 hg2 hat2;obtain ⟨A1,c1,e1⟩:=Kd.R_slice ho;rw [List.length_nil] at e1;subst e1;have HO:=Aside0.mk (show PRow w2 w.heap.size _ _ _ from ho);have HB2:=Aside0.mk hb2;have HBX2:=Aside0.mk (blk_grown HBX.out hg2 (by simp));have hcz2:w2.cell? ⟨gb,0,none⟩=some (.slice (some ad) l.length c0):=(blk_cell HBX2.out 0).trans rfl;clear ho hb2 hg2 hat2 HBX HB1 hcz))
    |((with_reducible refine gate_dst (N:=4) rfl ?_);(refine box_event ?hg (N:=4) ?hd (cs:=#[.slice none 0 0]) (t:=73) ?hr ?_;(case hd=>rfl);(case hg=>rfl);(case hr=>first|(go_simp;done)|(go_simp;rfl));intro gl hg w3 hbox hb3;have HGL:=Aside0.mk (show w.heap.size≤gl from by rw [hg];exact HB2.out.size);have HB3:=Aside0.mk (below_step HB2.out hb3);have HO3:=Aside0.mk (HO.out.below hb3);have HBX3:=Aside0.mk (blk_below HBX2.out hb3);have HBL:=Aside0.mk hbox;have hlt:=blk_lt HBX2.out;have HNE:=Aside0.mk (show gb≠gl from by rw [hg];omega);have hcl:w3.cell? ⟨gl,0,none⟩=some (.slice none 0 0):=(blk_cell hbox 0).trans rfl;have hfl:w3.frozen? ⟨gl,0,none⟩=false:=blk_frozen hbox 0;clear hg hbox hb3 hlt HB2 HO HBX2 hcz2))
    |((with_reducible refine gate_store (t:=73) (p:=4) rfl ?_);(refine store_event (t:=73) (p:=4) (v:=?vo_w4) (w1:=(w3.setCell ⟨gl,0,none⟩ (.slice A1 0 c1))) ?hg ?ho ?hn ?hr ?_;(case ho=>rfl);(case hg=>rfl);(case hn=>rfl);(case hr=>first|(go_simp;done)|(go_simp;rfl));intro w4 hw;have HB4:=Aside0.mk (show Below w.heap.size w w4 from (by rw [hw];exact below_set HB3.out HGL.out));have HBL4:=Aside0.mk (show w4.heap[gl]?=some (.cells #[.slice A1 0 c1] 73 (0,0)) from (by rw [hw];exact blk_put HBL.out 0 _ rfl));have HO4:=Aside0.mk (show PRow w4 w.heap.size (fun _=>True) (.slice A1 0 c1) [] from (by rw [hw];exact HO3.out.far HBL.out (by decide) 0 _));have HBX4:=Aside0.mk (show w4.heap[gb]?=some (.cells #[.slice (some ad) l.length c0] 31 (0,0)) from (by rw [hw];exact blk_far HBX3.out HNE.out _));clear hw hcl hfl HB3 HO3 HBX3 HBL))
    |((with_reducible refine gate_dst (N:=5) rfl ?_);(refine box_event ?hg (N:=5) ?hd (cs:=#[.int .i64 0]) (t:=3) ?hr ?_;(case hd=>rfl);(case hg=>rfl);(case hr=>first|(go_simp;done)|(go_simp;rfl));intro ga hg w5 hbox hb5;have HGA:=Aside0.mk (show w.heap.size≤ga from (by rw [hg];exact HB4.out.size));have HB5:=Aside0.mk (below_step HB4.out hb5);have HO5:=Aside0.mk (HO4.out.below hb5);have HBX5:=Aside0.mk (blk_below HBX4.out hb5);have HBL5:=Aside0.mk (blk_below HBL4.out hb5);have HBA:=Aside0.mk hbox;have hlt:=blk_lt HBX4.out;have hlt2:=blk_lt HBL4.out;have HNA:=Aside0.mk (show gb≠ga from (by rw [hg];omega));have HNL:=Aside0.mk (show gl≠ga from (by rw [hg];omega));have hca:w5.cell? ⟨ga,0,none⟩=some (.int .i64 0):=(blk_cell hbox 0).trans rfl;have hfa:w5.frozen? ⟨ga,0,none⟩=false:=blk_frozen hbox 0;clear hg hbox hb5 hlt hlt2 HB4 HO4 HBX4 HBL4))
    |((with_reducible refine gate_store (t:=3) (p:=5) rfl ?_);(refine store_event (t:=3) (p:=5) (v:=?vo_w6) (w1:=(w5.setCell ⟨ga,0,none⟩ (.int .i64 0))) ?hg ?ho ?hn ?hr ?_;(case ho=>rfl);(case hg=>rfl);(case hn=>rfl);(case hr=>first|(go_simp;done)|(go_simp;rfl));intro w6 hw;have HB6:=Aside0.mk (show Below w.heap.size w w6 from (by rw [hw];exact below_set HB5.out HGA.out));have HBL6:=Aside0.mk (show w6.heap[gl]?=some (.cells #[.slice A1 0 c1] 73 (0,0)) from (by rw [hw];exact blk_far HBL5.out HNL.out _));have HBA6:=Aside0.mk (show w6.heap[ga]?=some (.cells #[.int .i64 0] 3 (0,0)) from (by rw [hw];exact blk_put HBA.out 0 _ rfl));have HO6:=Aside0.mk (show PRow w6 w.heap.size (fun _=>True) (.slice A1 0 c1) [] from (by rw [hw];exact HO5.out.far HBA.out (by decide) 0 _));have hbx6:w6.heap[gb]?=some (.cells #[.slice (some ad) l.length c0] 31 (0,0)):=(by rw [hw];exact blk_far HBX5.out HNA.out _);have hcz6:w6.cell? ⟨gb,0,none⟩=some (.slice (some ad) l.length c0):=(blk_cell hbx6 0).trans rfl;clear hw hca hfa HB5 HO5 HBX5 HBL5 HBA hbx6))
    |((with_reducible refine gate_dst (N:=9) rfl ?_);(refine goesL_ (some 9) rfl rfl Try.func45 (by kernel_rfl) rfl #[.agg #[.slice (some ad) l.length c0],.pointer (some ⟨ga,0,none⟩),.pointer none,.pointer (some ⟨gl,0,none⟩)] rfl (by (try simp only [List.map_toArray,List.map_cons,List.map_nil]);first|done|rfl) ?_;obtain ⟨G0,hst⟩:=ST.start (l:=l) (va:=va) HBA6.out HBL6.out HO6.out HGA.out HGL.out;refine (growAt_calls w ad c0 l va ga gl HA.out HR.out.len4 HC.out HR.out.kids l.length 0 l.length w6 G0 none (.slice A1 0 c1) (by omega) HR.out.len1 HR.out.fits.one.2 hst (fun j hj=>absurd hj (by omega)) HB6.out).mono ?_;rintro e_ w7 ⟨lc7,G,rfl,hgr⟩;refine ⟨_,rfl,?_⟩;have HGR:=Aside0.mk hgr;obtain ⟨A7,c7,e7⟩:=Kd.R_slice (show kp.R 72 w7 w.heap.size _ lc7 _ from hgr.st.lrow);rw [List.length_map,List.length_range] at e7;have HE7:=Aside0.mk e7;have hls:=hgr.st.ls;rw [e7] at hls;have hcl7:w7.cell? ⟨gl,0,none⟩=some (.slice A7 l.length c7):=(blk_cell hls 0).trans rfl;clear hgr e7 hls hst hcz6)))
  go_quiet (fail)
  go_wp2
  go_ret2
  have hb7:Below w7.heap.size w7 (w7.drewN nq):=pw_below_drewN (Below.refl _ _) nq
  exact ⟨ad,va,G,.slice A7 l.length c7,rfl,pw_below_drewN HGR.out.bel nq,HA.out,HGR.out.gar.below hb7,(show PRow w7 w.heap.size (fun _=>True) (.slice A7 l.length c7) ((List.range l.length).map G.b) from by have h_:=HGR.out.st.lrow;rw [HE7.out] at h_;exact h_.re (fun _ _=>trivial)).below hb7⟩
end Go.Proofs.Ytbogfagafdokeaa.QFnExactRangeText
