/- (*impl.garden).path: the way from the page to a spot, as numbers. -/
import Derived.Test.YtbogfagafdokeaaQFnExactRangeTextx13
import Derived.Test.YtbogfagafdokeaaSpotIn
import Derived.Test.YtbogfagafdokeaaPar
namespace Go.Proofs.Ytbogfagafdokeaa.QFnExactRangeText
open Go Go.RowKit Go.Proofs.YtbogfagafdokeaaV.PrintWords Go.Proofs.YtbogfagafdokeaaV.PrintLast Go.Proofs.YtbogfagafdokeaaV.PrintMore Go.Proofs.Ytbogfagafdokeaa.TreeIx Go.Proofs.Ytbogfagafdokeaa.MapObj
set_option linter.unusedVariables false
set_option linter.unusedSimpArgs false
set_option maxHeartbeats 4000000 in
set_option maxRecDepth 100000 in
theorem path_calls (k:Nat) (wb W:World) (l:List S59) (va:Nat→Value) (G:Gh) (gg gm:Nat) (id at':Int) (j:Nat) (r:List Int) (R:Right l) (ha:atI l id=some j) (hG:Gard wb W l va G gg gm) (hwb:wb.heap.size≤W.heap.size)
  (h:slices_Reverse_int_int.f k (wrap64 (2*at')::chain l j)=some r) :
  Calls Try.prog 35 #[.pointer (some ⟨gg,0,none⟩),.agg #[.int .i64 id,.int .i64 at']] W fun e w'=>∃ v,e=.returned v∧Kd.R (Kd.int .i64) 3 w' W.heap.size (fun _=>True) v r∧Below W.heap.size W w':=by
 obtain ⟨hj,hid⟩:=at__lt ha
 have hget:((mget (hist l G.b l.length) id).map ptr).getD (.pointer none)=.pointer (some ⟨G.b j,0,none⟩):=by rw [mget_at];show (((atI l id).map G.b).map ptr).getD _=_;rw [ha];rfl
 have HH:=Aside0.mk hget
 have HG:=Aside0.mk hG
 have HR:=Aside0.mk R
 have HJ:=Aside0.mk hj
 have H0:=Aside0.mk h
 have HWB:=Aside0.mk hwb
 have hcg:W.cell? ⟨gg,1,none⟩=some (.map (some gm)):=(blk_cell HG.out.blk 1).trans rfl
 clear hget hG R ha hj hid h hwb
 go_enter Try.func35,Try.ntmps35
 go_wp2_with (first
  |((with_reducible refine gate_dst (N:=3) rfl ?_);refine box_event ?hg (N:=3) ?hd (cs:=#[.int .i64 id,.int .i64 at']) (t:=33) ?hr ?_;(case hd=>rfl);(case hg=>rfl);(case hr=>first|(go_simp;done)|(go_simp;rfl));intro gb hg w1 hbox hb1;have hz0:w1.cell? ⟨gb,0,none⟩=some (.int .i64 id):=(blk_cell hbox 0).trans rfl;have hz1:w1.cell? ⟨gb,1,none⟩=some (.int .i64 at'):=(blk_cell hbox 1).trans rfl;have hcg1:w1.cell? ⟨gg,1,none⟩=some (.map (some gm)):=pw_cell_below hb1 hcg;have HB1:=Aside0.mk hb1;clear hg hbox hb1 hcg))
 go_still_tail 6,(by kernel_rfl)
 change wpList _ _ _ _ _ w1.drew
 have HB2:=Aside0.mk (below_drew1 HB1.out)
 have hm2:=Aside0.mk (show w1.drew.heap[gm]?=some (gmap l G.b l.length) from blk_below HG.out.map (below_drew1 HB1.out))
 replace hz1:w1.drew.cell? ⟨gb,1,none⟩=some (.int .i64 at'):=hz1
 clear hz0 hcg1 HB1
 generalize w1.drew=w2 at HB2 hm2 hz1 ⊢
 go_wp2_with (first
  |(at_lookup;(refine get_event (kt:=3) (et:=72) (d:=.int .i64) (ek:=Value.int .i64) (ev:=ptr) (g:=gm) (hist:=hist l G.b l.length) rfl _ _ rfl rfl id rfl Try.underlying76 Try.underlying3 (fun _=>rfl) (vint_inj .i64) (z:=.pointer none) ?hz ?hm (.pointer (some ⟨G.b j,0,none⟩)) HH.out ?_;(case hz=>kernel_rfl);(case hm=>exact hm2.out)))
  |((with_reducible refine gate_dst (N:=17) rfl ?_);(refine Kd.R_lit (Kd.int .i64) (w0:=W) W.heap.size 3 ?hg (N:=17) ?hd (xs:=[wrap64 (2*at')]) (inner:=[.int .i64 (wrap64 (2*at'))]) (ok:=fun _=>True) (okp:=fun _=>True) ?hr ?hp (fun _ hk=>hk) trivial ?hB ?hb (by simp) ?_;(case hd=>rfl);(case hg=>rfl);(case hr=>first|(go_simp;done)|(go_simp;rfl));(case hp=>exact (Reps.none _ _).snoc (c:=[.int .i64 (wrap64 (2*at'))]) (show Kd.M (Kd.int .i64) _ _ _ _ _ from rfl) rfl);(case hB=>exact HB2.out);(case hb=>exact HB2.out.size);intro v3 w3 ho hb3 hg3 hat3;have HO3:=Aside0.mk ho;have HB3:=Aside0.mk hb3;clear ho hb3 hg3 hat3 HB2 hm2 hz1)))
 obtain ⟨full,hfull⟩:∃ full,full=wrap64 (2*at')::chain l j:=⟨_,rfl⟩
 have HFU:=Aside0.mk hfull
 clear hfull
 go_loopg [5,6] l.length (fun kq v5 v6 w'=>∃ (x:Nat) (xs:List Int),v5=.pointer (some ⟨G.b x,0,none⟩)∧Aside0 (x<l.length∧x≤kq)∧Aside0 (xs++chain l x=full)∧Aside0 (Kd.R (Kd.int .i64) 3 w' W.heap.size (fun _=>True) v6 xs)∧Aside0 (Below W.heap.size W w'))
 case atStart=>exact ⟨j,_,rfl,⟨HJ.out,by have:=HJ.out;omega⟩,⟨by rw [HFU.out];rfl⟩,HO3,HB3⟩
 case round=>
  clear HO3 HB3
  obtain ⟨x,xs,rfl,HX,HC,HO,HB⟩:=hrel
  have hGr:=HG.out.gar.below HB.out
  have htw:=hGr.tw x HX.out.1
  obtain ⟨A6,c6,e6⟩:=Kd.R_slice HO.out
  subst e6
  rcases gar_par HR.out hGr HX.out.1 with ⟨hp,hu⟩|⟨p,hp,hlt,hpn,hu,hpl⟩
  ·have hcu:wr.cell? ⟨G.b x,7,none⟩=some (.pointer none):=(blk_cell htw 7).trans (show some (G.up x)=_ from by rw [hu])
   have HXS:=Aside0.mk (show xs=full from by have:=HC.out;rw [chain_none hp,List.append_nil] at this;exact this)
   clear hGr htw hp hu
   go_wp2_with (first
    |((with_reducible refine gate_dst (N:=37) rfl ?_);(refine goesL_ (some 37) rfl rfl Try.func47 (by kernel_rfl) rfl #[.slice A6 xs.length c6] rfl (by (try simp only [List.map_toArray,List.map_cons,List.map_nil]);first|done|rfl) ?_;refine (slices_Reverse_int_int.calls k _ _ xs r W _ HB.out HO.out (by rw [HXS.out,HFU.out];exact H0.out)).mono ?_;rintro e_ w5 ⟨rfl,ho5,hb5,hk5⟩;refine ⟨_,rfl,?_⟩;have HO5:=Aside0.mk ho5;have HB5:=Aside0.mk hb5;clear ho5 hb5 hk5 hcu)))
   go_ret
   exact ⟨_,rfl,Kd.R_mono HO5.out (fun _ _=>trivial),HB5.out⟩
  ·have hcu:wr.cell? ⟨G.b x,7,none⟩=some (.pointer (some ⟨G.b p.1,0,none⟩)):=(blk_cell htw 7).trans (show some (G.up x)=_ from by rw [hu])
   have hcp:wr.cell? ⟨G.b x,8,none⟩=some (.int .i64 (p.2:Nat)):=(blk_cell htw 8).trans (show some (Value.int .i64 (G.pl x:Nat))=_ from by rw [hpl])
   have hw1:wrap64 (2*(p.2:Int))=2*(p.2:Int):=by have:=HR.out.len4;unfold wrap64;omega
   have hw2:wrap64 (2*(p.2:Int)+1)=2*(p.2:Int)+1:=by have:=HR.out.len4;unfold wrap64;omega
   have HC2:=Aside0.mk (show (xs++[2*(p.2:Int)+1])++chain l p.1=full from by have:=HC.out;rw [chain_some hp] at this;rw [List.append_assoc];exact this)
   have HLT:=Aside0.mk hlt
   have HU:=Aside0.mk hu
   have HLN:=Aside0.mk (show xs.length≤4000 from by
    have h1:=HC.out
    rw [HFU.out] at h1
    have h2:=congrArg List.length h1
    rw [List.length_append,List.length_cons] at h2
    have h3:=chain_len l j
    have h4:1≤(chain l x).length:=by rw [chain_some hp,List.length_cons];omega
    have:=HJ.out
    have:=HR.out.len4
    omega)
   clear hGr htw hp hu hlt hpn hpl
   go_wp2_with (first
    |((with_reducible refine gate_builtin (b:=.append) (xs:=#[.tmp 27,.tmp 34]) rfl ?_);at_builtin;(refine Kd.R_append (Kd.int .i64) (w0:=W) W.heap.size rfl (.tmp 27) (.tmp 34) 67 3 (.int .i64 0) 8 rfl Try.underlying67 info3 rfl (by decide) (by omega) (.slice A6 xs.length c6) xs (2*(p.2:Int)+1) [.int .i64 (2*(p.2:Int)+1)] (fun _=>True) (fun _=>False) rfl rfl ?aP (fun _ hk=>hk.elim) (fun _ _=>trivial) ?aO ?aB ?aS ?aL ?_;(case aP=>exact rfl);(case aB=>exact HB.out);(case aO=>exact HO.out);(case aS=>exact HB.out.size);(case aL=>have:=HLN.out;omega);intro v6 w6 hR hB6 hg6 hat6;have htw6:=(HG.out.gar.below hB6).tw x HX.out.1;have hcu6:w6.cell? ⟨G.b x,7,none⟩=some (.pointer (some ⟨G.b p.1,0,none⟩)):=(blk_cell htw6 7).trans (show some (G.up x)=_ from (by rw [HU.out]));have HO6:=Aside0.mk hR;have HB6:=Aside0.mk hB6;clear hR hB6 hg6 hat6 htw6 hcu hcp)))
   go_roundg (gk - 1)
   case measure=>have:=HX.out;have:=HLT.out;omega
   case rel=>exact ⟨p.1,_,rfl,⟨by have:=HX.out;have:=HLT.out;omega⟩,HC2,HO6,HB6⟩
end Go.Proofs.Ytbogfagafdokeaa.QFnExactRangeText
