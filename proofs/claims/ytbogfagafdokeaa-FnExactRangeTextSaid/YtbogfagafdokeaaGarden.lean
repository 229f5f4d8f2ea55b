/- impl.newGarden: the twigs of a tree, found by their Ids. -/
import Derived.Test.YtbogfagafdokeaaGrown
import Derived.Test.YtbogfagafdokeaaMapObj
namespace Go.Proofs.Ytbogfagafdokeaa.QFnExactRangeText
open Go Go.RowKit Go.Proofs.YtbogfagafdokeaaV.PrintWords Go.Proofs.YtbogfagafdokeaaV.PrintLast Go.Proofs.YtbogfagafdokeaaV.PrintMore Go.Proofs.Ytbogfagafdokeaa.TreeIx Go.Proofs.Ytbogfagafdokeaa.MapObj
set_option linter.unusedVariables false
set_option linter.unusedSimpArgs false
def hist (l:List S59) (b:Nat→Nat):Nat→List (Int×Nat)
 |0=>[]
 |k+1=>((rd_T59 l (k:Nat)).f0,b k)::hist l b k
def gmap (l:List S59) (b:Nat→Nat) (k:Nat):Obj:=mobj (Value.int .i64) ptr (hist l b k)
theorem Gar.put {w0 W W1:World} {l:List S59} {va:Nat→Value} {G:Gh} {gm:Nat} {es:Array MapEntry} {cl:Nat} (h:Gar w0 W l va G) (hg:W.grownBy W1 (some gm)) (hm:W.heap[gm]?=some (.map es cl)):Gar w0 W1 l va G:=
 ⟨fun j hj=>blk_grown (h.tw j hj) hg (cells_ne_map (h.tw j hj) hm),fun j hj=>R_put_map (h.row j hj) hg hm,h.kin,h.done,h.up0,h.pl0⟩
structure Gard (w0 W:World) (l:List S59) (va:Nat→Value) (G:Gh) (gg gm:Nat):Prop where
 bel:Below w0.heap.size w0 W
 gar:Gar w0 W l va G
 blk:W.heap[gg]?=some (.cells #[.pointer (some ⟨G.b 0,0,none⟩),.map (some gm)] 78 (0,0))
 map:W.heap[gm]?=some (gmap l G.b l.length)
theorem Gard.below {w0 W W1:World} {l:List S59} {va:Nat→Value} {G:Gh} {gg gm:Nat} (h:Gard w0 W l va G gg gm) (hw:w0.heap.size≤W.heap.size) (hb:Below W.heap.size W W1):Gard w0 W1 l va G gg gm:=
 ⟨below_then h.bel hw hb,h.gar.below hb,blk_below h.blk hb,blk_below h.map hb⟩
def GardenPost (w0:World) (l:List S59) (e:Ending) (w':World):Prop:=
 ∃ wb ad va G gg gm,e=.returned (.pointer (some ⟨gg,0,none⟩))∧Below w0.heap.size w0 wb∧Args wb ad l va∧Gard wb w' l va G gg gm
set_option maxHeartbeats 4000000 in
set_option maxRecDepth 100000 in
theorem newGarden_calls (w:World) (A0:Option Addr) (c0:Nat) (l:List S59) (hr:Kd.C k59 w A0 l.length l) (hc:l.length≤c0) (hR:Right l) :
  Calls Try.prog 19 #[.agg #[.slice A0 l.length c0]] w (GardenPost w l):=by
 have HA:=Aside0.mk hr
 have HR:=Aside0.mk hR
 have HC:=Aside0.mk hc
 have hu57:=Try.underlying31
 have hmm:=@run_makeMap Try.prog
 clear hR hr hc
 go_enter Try.func19,Try.ntmps19
 go_wp2_with (first
  |((with_reducible refine gate_dst (N:=1) rfl ?_);refine box_event ?hg (N:=1) ?hd (cs:=#[.slice A0 l.length c0]) (t:=31) ?hr ?_;(case hd=>rfl);(case hg=>rfl);(case hr=>first|(go_simp;done)|(go_simp;rfl));intro gb hg w1 hbox hb1;have hcz:w1.cell? ⟨gb,0,none⟩=some (.slice A0 l.length c0):=(blk_cell hbox 0).trans rfl;have HB1:=Aside0.mk hb1;clear hg hbox hb1)
  |((with_reducible refine gate_dst (N:=10) rfl ?_);(refine goesL_ (some 10) rfl rfl Try.func33 (by kernel_rfl) rfl #[.agg #[.slice A0 l.length c0]] rfl (by (try simp only [List.map_toArray,List.map_cons,List.map_nil]);first|done|rfl) ?_;refine (grown_calls _ A0 c0 l (Kd.C_below HA.out HB1.out) HC.out HR.out).mono ?_;rintro e_ w2 ⟨ad,va,G,lv,rfl,hb2,hA2,hG2,hrow⟩;refine ⟨_,rfl,?_⟩;obtain ⟨gL,cL,eL,_⟩:=Kd.R_form (show kp.R 72 w2 w1.heap.size _ lv _ from hrow) (by rw [List.length_map,List.length_range];exact HR.out.len1);rw [List.length_map,List.length_range] at eL;subst eL;have HB2:=Aside0.mk hb2;have HA2:=Aside0.mk hA2;have HG2:=Aside0.mk hG2;have HL2:=Aside0.mk hrow;clear hb2 hA2 hG2 hrow hcz))
  |((with_reducible refine gate_dst (N:=14) rfl ?_);(refine make_event ?hg (N:=14) ?hd ?hr ?_;(case hd=>rfl);(case hg=>rfl);(case hr=>first|(go_simp;done)|(go_simp;rfl));intro gm hg w3 hbox hb3;have HB3:=Aside0.mk (below_step HB2.out hb3);have HG3:=Aside0.mk (HG2.out.below hb3);have HL3:=Aside0.mk (HL2.out.below hb3);have HM3:=Aside0.mk (show w3.heap[gm]?=some (gmap l G.b 0) from hbox);have HGM:=Aside0.mk (show w1.heap.size≤gm from (by rw [hg];exact HB2.out.size));clear hg hbox hb3 HB2 HG2 HL2))
  |((with_reducible refine gate_dst (N:=16) rfl ?_);(refine box_event ?hg (N:=16) ?hd (cs:=#[.pointer (some ⟨G.b 0,0,none⟩),.map (some gm)]) (t:=78) ?hr ?_;(case hd=>rfl);(case hg=>rfl);(case hr=>first|(go_simp;done)|(go_simp;rfl));intro gg hg w4 hbox hb4;have HB4:=Aside0.mk (below_step HB3.out hb4);have HG4:=Aside0.mk (HG3.out.below hb4);have HL4:=Aside0.mk (HL3.out.below hb4);have HM4:=Aside0.mk (blk_below HM3.out hb4);have HGG:=Aside0.mk hbox;clear hg hbox hb4 HB3 HG3 HL3 HM3)))
 go_loopg [19] l.length (fun kq v19 w'=>∃ (j:Nat),v19=.int .i64 j∧Aside0 (kq+j=l.length)∧Aside0 (Below w1.heap.size w1 w')∧Aside0 (Gar w1 w' l va G)∧Aside0 (PRow w' w1.heap.size (fun _=>True) (.slice (some ⟨gL,0,none⟩) l.length cL) ((List.range l.length).map G.b))∧Aside0 (w'.heap[gg]?=some (.cells #[.pointer (some ⟨G.b 0,0,none⟩),.map (some gm)] 78 (0,0)))∧Aside0 (w'.heap[gm]?=some (gmap l G.b j)))
 case atStart=>exact ⟨0,rfl,⟨by omega⟩,HB4,HG4,HL4,HGG,HM4⟩
 case round=>
  clear HB4 HG4 HL4 HGG HM4
  obtain ⟨j,rfl,HJ,HB,HG,HL,HGG,HM⟩:=hrel
  have hle:l.length≤4000:=HR.out.len4
  by_cases hj:j<l.length
  ·have dj:decide ((j:Int)<(l.length:Int))=true:=decide_eq_true (by omega)
   have dj2:decide (j<l.length)=true:=decide_eq_true hj
   have p5:(0≤(j:Int))=True:=eq_true (by omega)
   have q5:((j:Int)<(l.length:Int))=True:=eq_true (by omega)
   have hwj:wrap64 ((j:Int)+1)=(j:Int)+1:=by unfold wrap64;omega
   have hcl:wr.cell? ⟨gL,j,none⟩=some (.pointer (some ⟨G.b j,0,none⟩)):=by
    have h:=(Kd.R_celln (0:Nat) HL.out (j:Int) (by omega) (by omega)).1
    rw [Int.toNat_natCast] at h
    refine h.trans ?_
    unfold rdOf
    rw [Int.toNat_natCast,List.getD_eq_getElem?_getD,List.getElem?_map,List.getElem?_range hj]
    rfl
   have hcg:wr.cell? ⟨gg,1,none⟩=some (.map (some gm)):=(blk_cell HGG.out 1).trans rfl
   have hci:wr.cell? ⟨G.b j,0,none⟩=some (.int .i64 (rd_T59 l (j:Nat)).f0):=(blk_cell (HG.out.tw j hj) 0).trans rfl
   have HJJ:=Aside0.mk hj
   have HLE:=Aside0.mk hle
   clear hj hle
   go_wp2
   go_still_tail 10,(by kernel_rfl)
   change wpList _ _ _ _ _ wr.drew
   have HB:=Aside0.mk (below_drew1 HB.out)
   have HG:=Aside0.mk (HG.out.below (below_drew1 (Below.refl _ _)))
   have HL:=Aside0.mk (HL.out.below (below_drew1 (Below.refl _ _)))
   have HGG:=Aside0.mk (blk_drew HGG.out)
   have HM:=Aside0.mk (show wr.drew.heap[gm]?=some (gmap l G.b j) from HM.out)
   clear hcl hcg hci
   generalize wr.drew=wd at HB HG HL HGG HM ⊢
   go_wp2_with (first
    |(at_mapUpdate;(refine put_event (kt:=3) (et:=72) (d:=.int .i64) (ek:=Value.int .i64) (ev:=ptr) (g:=gm) (hist:=hist l G.b j) rfl _ _ _ rfl rfl rfl (rd_T59 l (j:Nat)).f0 (G.b j) rfl rfl Try.underlying76 Try.underlying3 (fun _=>rfl) (vint_inj .i64) ?hm ?_;(case hm=>exact HM.out);intro w5 hm5 hg5;have HM5:=Aside0.mk (show w5.heap[gm]?=some (gmap l G.b (j+1)) from hm5);have HB5:=Aside0.mk (HB.out.grown hg5 HB.out.size (fun k hk=>(by injection hk with hk;rw [← hk];exact HGM.out)));have HG5:=Aside0.mk (HG.out.put hg5 HM.out);have HL5:=Aside0.mk (show PRow w5 _ _ _ _ from R_put_map HL.out hg5 HM.out);have HGG5:=Aside0.mk (blk_grown HGG.out hg5 (cells_ne_map HGG.out HM.out));clear hm5 hg5)))
   go_roundg (gk - 1)
   case measure=>have:=HJ.out;have:=HJJ.out;omega
   case rel=>exact ⟨j+1,by rw [hwj];rfl,⟨by have:=HJ.out;have:=HJJ.out;omega⟩,HB5,HG5,HL5,HGG5,HM5⟩
  ·have dj:decide ((j:Int)<(l.length:Int))=false:=decide_eq_false (by omega)
   have dj2:decide (j<l.length)=false:=decide_eq_false hj
   have hjl:j=l.length:=by have:=HJ.out;omega
   rw [hjl] at HM
   clear hj hjl hle
   go_wp2
   go_ret
   exact ⟨w1,ad,va,G,gg,gm,rfl,HB1.out,HA2.out,HB.out,HG.out,HGG.out,HM.out⟩
end Go.Proofs.Ytbogfagafdokeaa.QFnExactRangeText
