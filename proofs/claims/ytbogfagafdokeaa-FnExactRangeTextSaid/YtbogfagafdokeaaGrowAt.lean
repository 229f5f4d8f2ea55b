/- impl.growAt, walked. -/
import Derived.Test.YtbogfagafdokeaaGrow
import Derived.StillTailTactics
namespace Go.Proofs.Ytbogfagafdokeaa.QFnExactRangeText
open Go Go.RowKit Go.Proofs.YtbogfagafdokeaaV.PrintWords Go.Proofs.YtbogfagafdokeaaV.PrintLast Go.Proofs.YtbogfagafdokeaaV.PrintMore Go.Proofs.Ytbogfagafdokeaa.TreeIx
set_option linter.unusedVariables false
set_option linter.unusedSimpArgs false
theorem infoPW:(Try.prog.info? 72).map (fun i=>(i.zero,i.size,i.bytes))=some (some (.pointer none),1,8):=by kernel_rfl
set_option maxHeartbeats 4000000 in
set_option maxRecDepth 100000 in
theorem growAt_calls (w0:World) (ad:Addr) (c0:Nat) (l:List S59) (va:Nat→Value) (ga gl:Nat) (hA:Args w0 ad l va) (h4:l.length≤4000) (hcap:l.length≤c0) (hk:∀ j:Nat,j<l.length→0≤(rd_T59 l j).f5) :
  ∀ (d i e:Nat) (W:World) (G:Gh) (up:Option Addr) (lc:Value),l.length - i≤d→i<l.length→Fits (kdOf l) l.length (i+1) (kdOf l i) e→ST W w0.heap.size l va ga gl i (i:Nat) lc lc i G→(∀ j,j<i→G.v j=G.r j)→Below w0.heap.size w0 W→
  Calls Try.prog 45 #[.agg #[.slice (some ad) l.length c0],.pointer (some ⟨ga,0,none⟩),.pointer up,.pointer (some ⟨gl,0,none⟩)] W (GrowPost w0 W l va ga gl i e up G):=by
 intro d
 induction d with
 |zero=>intro i e W G up lc hd hi;omega
 |succ d ih=>
  intro i e W G up lc hd hi hfit hst hvr hB
  have IH:=Aside0.mk ih
  have HD:=Aside0.mk hd
  have HI:=Aside0.mk hi
  have HF:=Aside0.mk hfit
  have HS:=Aside0.mk hst
  have HV:=Aside0.mk hvr
  have HB:=Aside0.mk hB
  have HK:=Aside0.mk hk
  have HAr:=Aside0.mk hA
  have H4:=Aside0.mk h4
  have hu57:=Try.underlying31
  obtain ⟨AL,cL,eL⟩:=Kd.R_slice (show kp.R 72 W w0.heap.size _ lc _ from hst.lrow)
  rw [List.length_map,List.length_range] at eL
  subst eL
  clear ih hd hfit hst hvr hB hk hA h4
  obtain ⟨A3,c3,eva,hl3,hC3⟩:=HAr.out.sl i hi
  have hx0:=(HB.out.cell (World.block_lt_of_cell? w0 _ (HAr.out.c0 i hi))).trans (HAr.out.c0 i hi)
  have hx1:=(HB.out.cell (World.block_lt_of_cell? w0 _ (HAr.out.c1 i hi))).trans (HAr.out.c1 i hi)
  have hx2:=(HB.out.cell (World.block_lt_of_cell? w0 _ (HAr.out.c2 i hi))).trans (HAr.out.c2 i hi)
  have hx3:=(HB.out.cell (World.block_lt_of_cell? w0 _ (HAr.out.c3 i hi))).trans (HAr.out.c3 i hi)
  have hx4:=(HB.out.cell (World.block_lt_of_cell? w0 _ (HAr.out.c4 i hi))).trans (HAr.out.c4 i hi)
  have hx5:=(HB.out.cell (World.block_lt_of_cell? w0 _ (HAr.out.c5 i hi))).trans (HAr.out.c5 i hi)
  rw [eva] at hx3
  have HX:=Aside0.mk (show _∧_∧_∧_∧_∧_ from ⟨hx0,hx1,hx2,hx3,hx4,hx5⟩)
  have HE:=Aside0.mk eva
  clear hx0 hx1 hx2 hx3 hx4 hx5 hl3 hC3 eva
  have p5:(0≤(i:Int))=True:=eq_true (by omega)
  have q5:((i:Int)<(l.length:Int))=True:=eq_true (by omega)
  go_enter Try.func45,Try.ntmps45
  go_wp2_with (first
   |((with_reducible refine gate_dst (N:=4) rfl ?_);refine box_event ?hg (N:=4) ?hd (cs:=#[.slice (some ad) l.length c0]) (t:=31) ?hr ?_;(case hd=>rfl);(case hg=>rfl);(case hr=>first|(go_simp;done)|(go_simp;rfl));intro gb hg w1 hbox hb1;obtain ⟨hx0,hx1,hx2,hx3,hx4,hx5⟩:=HX.out;replace hx0:=pw_cell_below hb1 hx0;replace hx1:=pw_cell_below hb1 hx1;replace hx2:=pw_cell_below hb1 hx2;replace hx3:=pw_cell_below hb1 hx3;replace hx4:=pw_cell_below hb1 hx4;replace hx5:=pw_cell_below hb1 hx5;have hcz:w1.cell? ⟨gb,0,none⟩=some (.slice (some ad) l.length c0):=(blk_cell hbox 0).trans rfl;have hca:w1.cell? ⟨ga,0,none⟩=some (.int .i64 (i:Nat)):=(blk_cell (blk_below HS.out.at_ hb1) 0).trans rfl;have HS1:=Aside0.mk (HS.out.below hb1);have HB1:=Aside0.mk hb1;have HBX:=Aside0.mk hbox;have HGB:=Aside0.mk hg;clear hb1 hbox hg HX))
  go_still_tail 9,(by kernel_rfl)
  change wpList _ _ _ _ _ w1.drew
  have HB2:=Aside0.mk (show Below W.heap.size W w1.drew from below_drew1 HB1.out)
  have HS2:=Aside0.mk (show ST w1.drew w0.heap.size l va ga gl i (i:Nat) (.slice AL i cL) (.slice AL i cL) i G from HS1.out.below (below_drew1 (Below.refl _ _)))
  have HBX2:=Aside0.mk (blk_drew HBX.out)
  clear HS1 HBX HB1 hx0 hx1 hx2 hx3 hx4 hx5 hca hcz
  generalize w1.drew=w2 at HB2 HS2 HBX2 ⊢
  have hwi:wrap64 ((i:Int)+1)=(i:Int)+1:=by have:=H4.out;unfold wrap64;omega
  have HLE:=Aside0.mk (show w0.heap.size≤W.heap.size from HB.out.size)
  have HLE2:=Aside0.mk (show w0.heap.size≤w2.heap.size from Nat.le_trans HLE.out HB2.out.size)
  have HBB:=Aside0.mk (show Below w0.heap.size w0 w2 from below_then HB.out HLE.out HB2.out)
  go_wp2_with (first
   |((with_reducible refine gate_dst (N:=21) rfl ?_);refine box_event ?hg (N:=21) ?hd (cs:=#[.int .i64 (rd_T59 l (i:Nat)).f0,.int .i64 (rd_T59 l (i:Nat)).f1,.string (rd_T59 l (i:Nat)).f2,.slice A3 (rd_T59 l (i:Nat)).f3.length c3,.string (rd_T59 l (i:Nat)).f4,.int .i64 (rd_T59 l (i:Nat)).f5,.slice none 0 0,.pointer up,.int .i64 0]) (t:=80) ?hr ?_;(case hd=>rfl);(case hg=>rfl);(case hr=>first|(go_simp;done)|(go_simp;rfl));intro gt hgt w3 hbox hb3;have HGT:=Aside0.mk hgt;have HS3:=Aside0.mk (HS2.out.newTwig hb3 HLE2.out (.pointer up) (by rw [← hgt,HE.out];exact hbox));have HB3:=Aside0.mk hb3;have HBT:=Aside0.mk hbox;have hca:w3.cell? ⟨ga,0,none⟩=some (.int .i64 (i:Nat)):=(blk_cell HS3.out.at_ 0).trans rfl;have hfa:w3.frozen? ⟨ga,0,none⟩=false:=blk_frozen HS3.out.at_ 0;clear hgt hbox hb3)
   |((with_reducible refine gate_store (t:=3) (p:=26) rfl ?_);refine store_event (t:=3) (p:=26) (v:=?vo_w4) (w1:=(w3.setCell ⟨ga,0,none⟩ (.int .i64 (wrap64 ((i:Int)+1))))) ?hg ?ho ?hn ?hr ?_;(case ho=>rfl);(case hg=>rfl);(case hn=>rfl);(case hr=>first|(go_simp;done)|(go_simp;rfl));intro w4 hw;rw [hwi] at hw;have HS4:=Aside0.mk (show ST w4 _ _ _ _ _ _ _ _ _ _ _ from by rw [hw];exact HS3.out.setAt ((i:Int)+1));have HB4:=Aside0.mk (show Below w0.heap.size w0 w4 from by rw [hw];exact (below_then HBB.out HLE2.out HB3.out).setCell (show w0.heap.size≤ga from HS2.out.ab.1) _);have HW4:=Aside0.mk hw;have hcl:w4.cell? ⟨gl,0,none⟩=some (.slice AL i cL):=(blk_cell HS4.out.ls 0).trans rfl;clear hw hca hfa)
   |((with_reducible refine gate_builtin (b:=.append) (xs:=#[.tmp 30,.tmp 32]) rfl ?_);at_builtin;refine Kd.R_append kp (w0:=w0) w0.heap.size rfl (.tmp 30) (.tmp 32) 73 72 (.pointer none) 8 rfl Try.underlying73 infoPW rfl (by decide) (by omega) (.slice AL i cL) ((List.range i).map (upd G.b i w2.heap.size)) gt [ptr gt] (fun _=>True) (fun _=>False) rfl rfl ?aP (fun _ hk=>hk.elim) (fun _ _=>trivial) ?aO ?aB ?aS ?aL ?_;(case aP=>exact rfl);(case aB=>exact HB4.out);(case aO=>exact HS4.out.lrow.re (fun _ _=>trivial));(case aS=>exact HB4.out.size);(case aL=>have:=H4.out;rw [List.length_map,List.length_range];omega);(intro v1 w5 hR hB5 hg5 hat5;obtain ⟨A1,c1,e1⟩:=Kd.R_slice hR;rw [List.length_append,List.length_map,List.length_range,List.length_singleton] at e1;subst e1;have HR5:=Aside0.mk (show PRow w5 w0.heap.size _ _ _ from hR);have HB5:=Aside0.mk hB5;have HG5:=Aside0.mk hg5;have HT5:=Aside0.mk hat5;have hls:=(HS4.out.appList (c:=i) (ok:=fun _=>True) (by omega) (show PRow w5 w0.heap.size _ (.slice A1 (i+1) c1) ((List.range i).map (upd G.b i w2.heap.size)++[upd G.b i w2.heap.size i]) from by rw [upd_same];have h_:=hR;rw [HGT.out] at h_;exact h_) hg5 hat5).ls;have hcl5:w5.cell? ⟨gl,0,none⟩=some (.slice AL i cL):=(blk_cell hls 0).trans rfl;have hfl5:w5.frozen? ⟨gl,0,none⟩=false:=blk_frozen hls 0;clear hR hB5 hg5 hat5 hls hcl))
   |((with_reducible refine gate_store (t:=73) (p:=34) rfl ?_);(refine store_event (t:=73) (p:=34) (v:=?vo_w6) (w1:=(w5.setCell ⟨gl,0,none⟩ (.slice A1 (i+1) c1))) ?hg ?ho ?hn ?hr ?_;(case ho=>rfl);(case hg=>rfl);(case hn=>rfl);(case hr=>first|(go_simp;done)|(go_simp;rfl));intro w6 hw;have HG:=Aside0.mk (show GI w0 w2 l va ga gl i e gt up G 0 (i+1) (.slice A1 (i+1) c1) _ w6 from by rw [hw,HGT.out];exact GI.start HS.out HV.out HB.out HB2.out HB3.out (by rw [← HGT.out,HE.out];exact HBT.out) HW4.out HS4.out (by have h_:=HR5.out;rw [HGT.out] at h_;exact h_) HG5.out HT5.out HB5.out HI.out HF.out);have hk5:w6.cell? ⟨gt,5,none⟩=some (.int .i64 (kdOf l i:Nat)):=by { have h1:=HG.out.st.tw i (by omega);rw [HG.out.bi] at h1;refine (blk_cell h1 5).trans ?_;show some (Value.int .i64 (rd_T59 l (i:Nat)).f5)=_;unfold kdOf;rw [Int.toNat_of_nonneg (HK.out i HI.out)] };clear hw hcl5 hfl5 HW4 HS4 HB4 HR5 HB5 HG5 HT5 HS3 HB3 HBT)))
  clear hk5
  go_loopg [40] (kdOf l i) (fun kq v40 w'=>∃ (q m:Nat) (lq:Value) (Gq:Gh),v40=.int .i64 q∧Aside0 (GI w0 w2 l va ga gl i e gt up G q m lq Gq w')∧Aside0 (kq+q=kdOf l i))
  case atStart=>exact ⟨0,i+1,_,_,rfl,HG,⟨by omega⟩⟩
  case round=>
   clear HG
   obtain ⟨q,m,lq,Gq,rfl,HG,HQ⟩:=hrel
   by_cases hq:q<kdOf l i
   ·have dq:decide ((q:Int)<(kdOf l i:Int))=true:=decide_eq_true (by omega)
    have dq2:decide (q<kdOf l i)=true:=decide_eq_true hq
    have HQ2:=Aside0.mk hq
    have hfit2:=HG.out.fit2
    obtain ⟨a,ha⟩:∃ a,kdOf l i - q=a+1:=⟨kdOf l i - q - 1,by omega⟩
    rw [ha] at hfit2
    obtain ⟨hm,m',hf1,hf2⟩:=hfit2.open_
    have HM:=Aside0.mk hm
    have HF1:=Aside0.mk hf1
    have hbx:=(HG.out.kept.2 gb (blk_lt HBX2.out) (by show ¬ (G.f gb).1≠0;rw [HGB.out,HS.out.fr _ (Nat.le_refl _)];simp)).trans HBX2.out
    have hcz:wr.cell? ⟨gb,0,none⟩=some (.slice (some ad) l.length c0):=(blk_cell hbx 0).trans rfl
    have hq4:wrap64 ((q:Int)+1)=(q:Int)+1:=by have h1:=HF.out.count;have h2:=HF.out.le.2;have:=H4.out;unfold wrap64;omega
    have HIM:=Aside0.mk HG.out.him
    clear hfit2 hf1 hf2 ha hm hbx hq
    go_wp2_with (first
     |((with_reducible refine gate_dst (N:=47) rfl ?_);refine goesL_ (some 47) rfl rfl Try.func45 (by kernel_rfl) rfl #[.agg #[.slice (some ad) l.length c0],.pointer (some ⟨ga,0,none⟩),.pointer (some ⟨gt,0,none⟩),.pointer (some ⟨gl,0,none⟩)] rfl (by (try simp only [List.map_toArray,List.map_cons,List.map_nil]);first|done|rfl) ?_;refine (IH.out m m' wr Gq (some ⟨gt,0,none⟩) lq (by have:=HD.out;have:=HIM.out;have:=HM.out;omega) HM.out HF1.out HG.out.st HG.out.vr HG.out.bel).mono ?_;rintro e_ w4 ⟨lc4,G4,rfl,hgr⟩;refine ⟨_,rfl,?_⟩;have hmm:=(Fits.mk1 HM.out HF1.out).lt;have hkc:=blk_cell (hgr.st.tw m hmm) 8;have hcx:w4.cell? ⟨G4.b m,8,none⟩=some (.int .i64 (G4.pl m:Nat)):=hkc.trans rfl;have hfx:w4.frozen? ⟨G4.b m,8,none⟩=false:=blk_frozen (hgr.st.tw m hmm) 8;have HGR:=Aside0.mk hgr;have HMM:=Aside0.mk hmm;clear hkc hgr hmm hcz)
     |((with_reducible refine gate_store (t:=3) (p:=51) rfl ?_);(refine store_event (t:=3) (p:=51) (v:=?vo_w5) (w1:=(w4.setCell ⟨G4.b m,8,none⟩ (.int .i64 (q:Nat)))) ?hg ?ho ?hn ?hr ?_;(case ho=>rfl);(case hg=>rfl);(case hn=>rfl);(case hr=>first|(go_simp;done)|(go_simp;rfl));intro w5 hw;have hsame:=HGR.out.same i HIM.out;have hs5:=HGR.out.st.setTwig HMM.out 8 (.int .i64 (q:Nat)) (G4.v m) q rfl;rw [← hw] at hs5;have hB5:Below w0.heap.size w0 w5:=(by rw [hw];exact HGR.out.bel.setCell (show w0.heap.size≤G4.b m from (HGR.out.st.tb m HMM.out).1) _);obtain ⟨Ak,ck,ek⟩:=Kd.R_slice (show kp.R 72 w4 w0.heap.size _ (G4.r i) _ from HGR.out.st.row i (by have:=HIM.out;have:=HMM.out;omega));rw [List.length_map,hsame.2.2.2.1,HG.out.kli] at ek;have hvi:G4.v i=.slice Ak q ck:=(HGR.out.vr i (by have:=HIM.out;have:=HMM.out;omega)).trans ek;have htw:=hs5.tw i (by have:=HIM.out;have:=HMM.out;omega);have hbi:G4.b i=gt:=hsame.1.trans HG.out.bi;have hck:w5.cell? ⟨gt,6,none⟩=some (.slice Ak q ck):=by { rw [← hbi];refine (blk_cell htw 6).trans ?_;show some (upd G4.v m (G4.v m) i)=_;rw [upd_ne _ _ (by have:=HIM.out;omega),hvi] };have HS5:=Aside0.mk hs5;have HB5:=Aside0.mk hB5;have HW5:=Aside0.mk hw;have HEK:=Aside0.mk ek;have HBI:=Aside0.mk hbi;have HKL:=Aside0.mk (show (G4.kl i).length=q from by rw [hsame.2.2.2.1];exact HG.out.kli);clear hsame hs5 hB5 hw ek hvi htw hbi hcx hfx))
     |((with_reducible refine gate_builtin (b:=.append) (xs:=#[.tmp 56,.tmp 58]) rfl ?_);at_builtin;(refine Kd.R_append kp (w0:=w0) w0.heap.size rfl (.tmp 56) (.tmp 58) 73 72 (.pointer none) 8 rfl Try.underlying73 infoPW rfl (by decide) (by omega) (.slice Ak q ck) ((G4.kl i).map G4.b) (G4.b m) [ptr (G4.b m)] (fun _=>True) (fun _=>False) rfl rfl ?aP (fun _ hk=>hk.elim) (fun _ _=>trivial) ?aO ?aB ?aS ?aL ?_;(case aP=>exact rfl);(case aB=>exact HB5.out);(case aO=>have h_:=HS5.out.row i (by have:=HIM.out;have:=HMM.out;omega);rw [← HEK.out];exact h_.re (fun _ _=>trivial));(case aS=>exact HB5.out.size);(case aL=>have h1:=HF.out.count;have h2:=HF.out.le.2;have:=H4.out;have:=HQ2.out;rw [List.length_map,HKL.out];omega);intro v6 w6 hR hB6 hg6 hat6;obtain ⟨A1,c1,e1⟩:=Kd.R_slice hR;rw [List.length_append,List.length_map,HKL.out,List.length_singleton] at e1;subst e1;rw [← HEK.out] at hg6 hat6;have hap:=HS5.out.appKid (i:=i) (q:=m) (ok:=fun _=>True) (by have:=HIM.out;have:=HMM.out;omega) HMM.out hR hg6 hat6;have htw:=hap.tw i (by have:=HIM.out;have:=HMM.out;omega);have hck6:w6.cell? ⟨gt,6,none⟩=some (upd G4.v m (G4.v m) i):=by { rw [← HBI.out];exact (blk_cell htw 6).trans rfl };have hfk6:w6.frozen? ⟨gt,6,none⟩=false:=by { rw [← HBI.out];exact blk_frozen htw 6 };rw [HW5.out] at hg6 hat6;obtain ⟨Gn,hGn⟩:=HG.out.step HQ2.out HF1.out HM.out HGR.out (ok:=fun _=>True) hR hg6 hat6 hB6;have HGn:=Aside0.mk hGn;clear hR hB6 hg6 hat6 hap htw hGn hck))
     |((with_reducible refine gate_store (t:=73) (p:=61) rfl ?_);(refine store_event (t:=73) (p:=61) (v:=?vo_w7) (w1:=(w6.setCell ⟨gt,6,none⟩ (.slice A1 (q+1) c1))) ?hg ?ho ?hn ?hr ?_;(case ho=>rfl);(case hg=>rfl);(case hn=>rfl);(case hr=>first|(go_simp;done)|(go_simp;rfl));intro w7 hw;rw [← hw] at HGn;clear hw hck6 hfk6)))
    go_roundg (gk - 1)
    case measure=>have:=HQ.out;have:=HQ2.out;omega
    case rel=>exact ⟨q+1,m',lc4,Gn,by rw [hq4];rfl,HGn,⟨by have:=HQ.out;have:=HQ2.out;omega⟩⟩
   ·have dq:decide ((q:Int)<(kdOf l i:Int))=false:=decide_eq_false (by omega)
    have dq2:decide (q<kdOf l i)=false:=decide_eq_false hq
    have HN:=Aside0.mk hq
    clear hq
    go_wp2
    go_ret
    exact ⟨lq,Gq,by rw [HG.out.bi];rfl,HG.out.end_ HN.out HB2.out⟩
end Go.Proofs.Ytbogfagafdokeaa.QFnExactRangeText
