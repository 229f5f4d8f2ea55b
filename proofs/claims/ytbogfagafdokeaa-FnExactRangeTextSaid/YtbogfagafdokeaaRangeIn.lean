/- (*impl.garden).rangeIn, walked. -/
import Derived.Test.YtbogfagafdokeaaLex
namespace Go.Proofs.Ytbogfagafdokeaa.QFnExactRangeText
open Go Go.RowKit Go.Proofs.YtbogfagafdokeaaV.PrintWords Go.Proofs.YtbogfagafdokeaaV.PrintLast Go.Proofs.YtbogfagafdokeaaV.PrintMore Go.Proofs.Ytbogfagafdokeaa.TreeIx Go.Proofs.Ytbogfagafdokeaa.MapObj
set_option linter.unusedVariables false
set_option linter.unusedSimpArgs false
theorem spotB_some {l:List S59} {id at':Int} (h:spotB l id at'=true):(atI l id).isSome=true:=by
 unfold spotB at h
 cases ha:atI l id with
 |none=>
  rw [ha] at h
  cases h
 |some j=>rfl
noncomputable def rangeB (l:List S59) (a0 a1 b0 b1:Int):Bool:=if spotB l a0 a1=true then (if spotB l b0 b1=true then !(lessB l b0 b1 a0 a1) else false) else false
set_option maxHeartbeats 8000000 in
set_option maxRecDepth 100000 in
theorem rangeIn_calls (wb W:World) (l:List S59) (va:Nat→Value) (G:Gh) (gg gm:Nat) (a0 a1 b0 b1:Int) (R:Right l) (hG:Gard wb W l va G gg gm) (hwb:wb.heap.size≤W.heap.size) :
  Calls Try.prog 25 #[.pointer (some ⟨gg,0,none⟩),.agg #[.int .i64 a0,.int .i64 a1,.int .i64 b0,.int .i64 b1]] W fun e w'=>e=.returned (.bool (rangeB l a0 a1 b0 b1))∧Below W.heap.size W w':=by
 have HG:=Aside0.mk hG
 have HRT:=Aside0.mk R
 have HWB:=Aside0.mk hwb
 have hu1:=Try.underlying33
 have hu2:=Try.underlying41
 clear hG R hwb
 by_cases sa:spotB l a0 a1=true
 ·have HSA:=Aside0.mk sa
  by_cases sx:spotB l b0 b1=true
  ·have HSX:=Aside0.mk sx
   have e:rangeB l a0 a1 b0 b1=!(lessB l b0 b1 a0 a1):=by unfold rangeB;rw [if_pos sa,if_pos sx]
   rw [e]
   clear e sa sx
   go_enter Try.func25,Try.ntmps25
   go_wp2_with (first
    |((with_reducible refine gate_dst (N:=3) rfl ?_);refine box_event ?hg (N:=3) ?hd (cs:=#[.int .i64 a0,.int .i64 a1,.int .i64 b0,.int .i64 b1]) (t:=41) ?hr ?_;(case hd=>rfl);(case hg=>rfl);(case hr=>first|(go_simp;done)|(go_simp;rfl));intro gr hg w3 hbox hb;have BR:=Aside0.mk hbox;clear hg hbox;have n0_:=Aside0.mk (HG.out.below HWB.out hb);have n1_:=Aside0.mk (Nat.le_trans HWB.out hb.size);have HB:=Aside0.mk hb;clear HG HWB hb;have HG:=n0_;have HWB:=n1_;clear n0_ n1_;have z0:w3.cell? ⟨gr,0,none⟩=some (.int .i64 a0):=(blk_cell BR.out 0).trans rfl;have z1:w3.cell? ⟨gr,1,none⟩=some (.int .i64 a1):=(blk_cell BR.out 1).trans rfl)
    |((with_reducible refine gate_dst (N:=8) rfl ?_);(refine goesL_ (some 8) rfl rfl Try.func20 (by kernel_rfl) rfl #[.pointer (some ⟨gg,0,none⟩),.agg #[.int .i64 a0,.int .i64 a1]] rfl (by (try simp only [List.map_toArray,List.map_cons,List.map_nil]);first|done|rfl) ?_;refine (spotIn_calls wb _ l va G gg gm a0 a1 HG.out).mono ?_;rintro e w4 ⟨rfl,hb⟩;refine ⟨_,rfl,?_⟩;rw [HSA.out];have n0_:=Aside0.mk (HG.out.below HWB.out hb);have n1_:=Aside0.mk (Nat.le_trans HWB.out hb.size);have n2_:=Aside0.mk (below_step HB.out hb);have n3_:=Aside0.mk (blk_below BR.out hb);clear HG HWB HB BR hb;have HG:=n0_;have HWB:=n1_;have HB:=n2_;have BR:=n3_;clear n0_ n1_ n2_ n3_;clear z0 z1;have z2:w4.cell? ⟨gr,2,none⟩=some (.int .i64 b0):=(blk_cell BR.out 2).trans rfl;have z3:w4.cell? ⟨gr,3,none⟩=some (.int .i64 b1):=(blk_cell BR.out 3).trans rfl))
    |((with_reducible refine gate_dst (N:=13) rfl ?_);(try (refine gate_guard (by rfl) ?_;dsimp only));(refine goesL_ (some 13) rfl rfl Try.func20 (by kernel_rfl) rfl #[.pointer (some ⟨gg,0,none⟩),.agg #[.int .i64 b0,.int .i64 b1]] rfl (by (try simp only [List.map_toArray,List.map_cons,List.map_nil]);first|done|rfl) ?_;refine (spotIn_calls wb _ l va G gg gm b0 b1 HG.out).mono ?_;rintro e w5 ⟨rfl,hb⟩;refine ⟨_,rfl,?_⟩;rw [HSX.out];have n0_:=Aside0.mk (HG.out.below HWB.out hb);have n1_:=Aside0.mk (Nat.le_trans HWB.out hb.size);have n2_:=Aside0.mk (below_step HB.out hb);have n3_:=Aside0.mk (blk_below BR.out hb);clear HG HWB HB BR hb;have HG:=n0_;have HWB:=n1_;have HB:=n2_;have BR:=n3_;clear n0_ n1_ n2_ n3_;clear z2 z3;have z0:w5.cell? ⟨gr,0,none⟩=some (.int .i64 a0):=(blk_cell BR.out 0).trans rfl;have z1:w5.cell? ⟨gr,1,none⟩=some (.int .i64 a1):=(blk_cell BR.out 1).trans rfl;have z2:w5.cell? ⟨gr,2,none⟩=some (.int .i64 b0):=(blk_cell BR.out 2).trans rfl;have z3:w5.cell? ⟨gr,3,none⟩=some (.int .i64 b1):=(blk_cell BR.out 3).trans rfl))
    |((with_reducible refine gate_dst (N:=21) rfl ?_);(try (refine gate_guard (by rfl) ?_;dsimp only));(refine goesL_ (some 21) rfl rfl Try.func21 (by kernel_rfl) rfl #[.pointer (some ⟨gg,0,none⟩),.agg #[.int .i64 b0,.int .i64 b1],.agg #[.int .i64 a0,.int .i64 a1]] rfl (by (try simp only [List.map_toArray,List.map_cons,List.map_nil]);first|done|rfl) ?_;refine (less_b wb _ l va G gg gm b0 b1 a0 a1 HRT.out (spotB_some HSX.out) (spotB_some HSA.out) HG.out HWB.out).mono ?_;rintro e w6 ⟨rfl,hb⟩;refine ⟨_,rfl,?_⟩;clear z0 z1 z2 z3;have n0_:=Aside0.mk (below_step HB.out hb);clear HB hb;have HB:=n0_;clear n0_)))
   go_ret
   exact ⟨rfl,HB.out⟩
  ·have HSX:=Aside0.mk (Bool.eq_false_iff.mpr sx)
   have e:rangeB l a0 a1 b0 b1=false:=by unfold rangeB;rw [if_pos sa,if_neg sx]
   rw [e]
   clear e sa sx
   go_enter Try.func25,Try.ntmps25
   go_wp2_with (first
    |((with_reducible refine gate_dst (N:=3) rfl ?_);refine box_event ?hg (N:=3) ?hd (cs:=#[.int .i64 a0,.int .i64 a1,.int .i64 b0,.int .i64 b1]) (t:=41) ?hr ?_;(case hd=>rfl);(case hg=>rfl);(case hr=>first|(go_simp;done)|(go_simp;rfl));intro gr hg w3 hbox hb;have BR:=Aside0.mk hbox;clear hg hbox;have n0_:=Aside0.mk (HG.out.below HWB.out hb);have n1_:=Aside0.mk (Nat.le_trans HWB.out hb.size);have HB:=Aside0.mk hb;clear HG HWB hb;have HG:=n0_;have HWB:=n1_;clear n0_ n1_;have z0:w3.cell? ⟨gr,0,none⟩=some (.int .i64 a0):=(blk_cell BR.out 0).trans rfl;have z1:w3.cell? ⟨gr,1,none⟩=some (.int .i64 a1):=(blk_cell BR.out 1).trans rfl)
    |((with_reducible refine gate_dst (N:=8) rfl ?_);(refine goesL_ (some 8) rfl rfl Try.func20 (by kernel_rfl) rfl #[.pointer (some ⟨gg,0,none⟩),.agg #[.int .i64 a0,.int .i64 a1]] rfl (by (try simp only [List.map_toArray,List.map_cons,List.map_nil]);first|done|rfl) ?_;refine (spotIn_calls wb _ l va G gg gm a0 a1 HG.out).mono ?_;rintro e w4 ⟨rfl,hb⟩;refine ⟨_,rfl,?_⟩;rw [HSA.out];have n0_:=Aside0.mk (HG.out.below HWB.out hb);have n1_:=Aside0.mk (Nat.le_trans HWB.out hb.size);have n2_:=Aside0.mk (below_step HB.out hb);have n3_:=Aside0.mk (blk_below BR.out hb);clear HG HWB HB BR hb;have HG:=n0_;have HWB:=n1_;have HB:=n2_;have BR:=n3_;clear n0_ n1_ n2_ n3_;clear z0 z1;have z2:w4.cell? ⟨gr,2,none⟩=some (.int .i64 b0):=(blk_cell BR.out 2).trans rfl;have z3:w4.cell? ⟨gr,3,none⟩=some (.int .i64 b1):=(blk_cell BR.out 3).trans rfl))
    |((with_reducible refine gate_dst (N:=13) rfl ?_);(try (refine gate_guard (by rfl) ?_;dsimp only));(refine goesL_ (some 13) rfl rfl Try.func20 (by kernel_rfl) rfl #[.pointer (some ⟨gg,0,none⟩),.agg #[.int .i64 b0,.int .i64 b1]] rfl (by (try simp only [List.map_toArray,List.map_cons,List.map_nil]);first|done|rfl) ?_;refine (spotIn_calls wb _ l va G gg gm b0 b1 HG.out).mono ?_;rintro e w5 ⟨rfl,hb⟩;refine ⟨_,rfl,?_⟩;rw [HSX.out];have n0_:=Aside0.mk (HG.out.below HWB.out hb);have n1_:=Aside0.mk (Nat.le_trans HWB.out hb.size);have n2_:=Aside0.mk (below_step HB.out hb);have n3_:=Aside0.mk (blk_below BR.out hb);clear HG HWB HB BR hb;have HG:=n0_;have HWB:=n1_;have HB:=n2_;have BR:=n3_;clear n0_ n1_ n2_ n3_;clear z2 z3)))
   go_ret
   exact ⟨rfl,HB.out⟩
 ·have HSA:=Aside0.mk (Bool.eq_false_iff.mpr sa)
  have e:rangeB l a0 a1 b0 b1=false:=by unfold rangeB;rw [if_neg sa]
  rw [e]
  clear e sa
  go_enter Try.func25,Try.ntmps25
  go_wp2_with (first
   |((with_reducible refine gate_dst (N:=3) rfl ?_);refine box_event ?hg (N:=3) ?hd (cs:=#[.int .i64 a0,.int .i64 a1,.int .i64 b0,.int .i64 b1]) (t:=41) ?hr ?_;(case hd=>rfl);(case hg=>rfl);(case hr=>first|(go_simp;done)|(go_simp;rfl));intro gr hg w3 hbox hb;have BR:=Aside0.mk hbox;clear hg hbox;have n0_:=Aside0.mk (HG.out.below HWB.out hb);have n1_:=Aside0.mk (Nat.le_trans HWB.out hb.size);have HB:=Aside0.mk hb;clear HG HWB hb;have HG:=n0_;have HWB:=n1_;clear n0_ n1_;have z0:w3.cell? ⟨gr,0,none⟩=some (.int .i64 a0):=(blk_cell BR.out 0).trans rfl;have z1:w3.cell? ⟨gr,1,none⟩=some (.int .i64 a1):=(blk_cell BR.out 1).trans rfl)
   |((with_reducible refine gate_dst (N:=8) rfl ?_);(refine goesL_ (some 8) rfl rfl Try.func20 (by kernel_rfl) rfl #[.pointer (some ⟨gg,0,none⟩),.agg #[.int .i64 a0,.int .i64 a1]] rfl (by (try simp only [List.map_toArray,List.map_cons,List.map_nil]);first|done|rfl) ?_;refine (spotIn_calls wb _ l va G gg gm a0 a1 HG.out).mono ?_;rintro e w4 ⟨rfl,hb⟩;refine ⟨_,rfl,?_⟩;rw [HSA.out];have n0_:=Aside0.mk (HG.out.below HWB.out hb);have n1_:=Aside0.mk (Nat.le_trans HWB.out hb.size);have n2_:=Aside0.mk (below_step HB.out hb);have n3_:=Aside0.mk (blk_below BR.out hb);clear HG HWB HB BR hb;have HG:=n0_;have HWB:=n1_;have HB:=n2_;have BR:=n3_;clear n0_ n1_ n2_ n3_;clear z0 z1)))
  go_ret
  exact ⟨rfl,HB.out⟩
end Go.Proofs.Ytbogfagafdokeaa.QFnExactRangeText
