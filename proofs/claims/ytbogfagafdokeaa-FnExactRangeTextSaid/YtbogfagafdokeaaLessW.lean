/- (*impl.garden).less: the two ways, held against each other. -/
import Derived.Test.YtbogfagafdokeaaPathW
namespace Go.Proofs.Ytbogfagafdokeaa.QFnExactRangeText
open Go Go.RowKit Go.Proofs.YtbogfagafdokeaaV.PrintWords Go.Proofs.YtbogfagafdokeaaV.PrintLast Go.Proofs.YtbogfagafdokeaaV.PrintMore Go.Proofs.Ytbogfagafdokeaa.TreeIx Go.Proofs.Ytbogfagafdokeaa.MapObj
set_option linter.unusedVariables false
set_option linter.unusedSimpArgs false
set_option maxHeartbeats 8000000 in
set_option maxRecDepth 100000 in
theorem less_calls (k k2 k3:Nat) (wb W:World) (l:List S59) (va:Nat→Value) (G:Gh) (gg gm:Nat) (a0 a1 b0 b1:Int) (ja jb:Nat) (ra rb:List Int) (c:Int) (R:Right l) (hja:atI l a0=some ja) (hjb:atI l b0=some jb) (hG:Gard wb W l va G gg gm) (hwb:wb.heap.size≤W.heap.size)
  (hra:slices_Reverse_int_int.f k (wrap64 (2*a1)::chain l ja)=some ra) (hrb:slices_Reverse_int_int.f k2 (wrap64 (2*b1)::chain l jb)=some rb) (hc:slices_Compare_int_int.f k3 ra rb=some c) :
  Calls Try.prog 21 #[.pointer (some ⟨gg,0,none⟩),.agg #[.int .i64 a0,.int .i64 a1],.agg #[.int .i64 b0,.int .i64 b1]] W fun e w'=>e=.returned (.bool (decide (c<0)))∧Below W.heap.size W w':=by
 have HG:=Aside0.mk hG
 have HR:=Aside0.mk R
 have HJA:=Aside0.mk hja
 have HJB:=Aside0.mk hjb
 have HRA:=Aside0.mk hra
 have HRB:=Aside0.mk hrb
 have HC:=Aside0.mk hc
 have HWB:=Aside0.mk hwb
 have hu33:=Try.underlying33
 clear hG R hja hjb hra hrb hc hwb
 go_enter Try.func21,Try.ntmps21
 go_wp2_with (first
  |((with_reducible refine gate_dst (N:=4) rfl ?_);refine box_event ?hg (N:=4) ?hd (cs:=#[.int .i64 a0,.int .i64 a1]) (t:=33) ?hr ?_;(case hd=>rfl);(case hg=>rfl);(case hr=>first|(go_simp;done)|(go_simp;rfl));intro ga hg w4 hbox hb;have HB:=Aside0.mk hb;have BA:=Aside0.mk hbox;clear hg hbox hb)
  |((with_reducible refine gate_dst (N:=5) rfl ?_);refine box_event ?hg (N:=5) ?hd (cs:=#[.int .i64 b0,.int .i64 b1]) (t:=33) ?hr ?_;(case hd=>rfl);(case hg=>rfl);(case hr=>first|(go_simp;done)|(go_simp;rfl));intro gb hg w5 hbox hb;have n0_:=Aside0.mk (below_step HB.out hb);have n1_:=Aside0.mk (blk_below BA.out hb);have BX:=Aside0.mk hbox;clear HB BA hg hbox hb;have HB:=n0_;have BA:=n1_;clear n0_ n1_))
 refine start_ (n:=9) (S:=fun w'=>w'.cell? ⟨ga,0,none⟩=some (.int .i64 a0)∧w'.cell? ⟨ga,1,none⟩=some (.int .i64 a1)∧w'.cell? ⟨gb,0,none⟩=some (.int .i64 b0)∧w'.cell? ⟨gb,1,none⟩=some (.int .i64 b1)) (ds:=[]) #[false,false,false,false,false,false,false,false,false] (by kernel_rfl) rfl rfl ⟨(blk_cell BA.out 0).trans rfl,(blk_cell BA.out 1).trans rfl,(blk_cell BX.out 0).trans rfl,(blk_cell BX.out 1).trans rfl⟩ (fun hHeld=>?_)
 have n0_:=Aside0.mk (below_drew1 HB.out)
 have n1_:=Aside0.mk (blk_drew BA.out)
 have n2_:=Aside0.mk (blk_drew BX.out)
 clear HB BA BX
 have HB:=n0_
 have BA:=n1_
 have BX:=n2_
 clear n0_ n1_ n2_
 generalize w5.drew=w5d at HB BA BX hHeld ⊢
 refine pure_ (i:=0) (N:=(some 7)) (v:=?_) (a':=?_) #[true,false,false,false,false,false,false,false,false] rfl rfl (by kernel_rfl) (fun _ _ _ h=>h) (Or.inl ⟨by rfl,?_⟩) ?_ ?_
 rotate_left
 ·intro w'
  go_simp
  with_reducible rfl
 rotate_left
 ·simp only [Act.put,List.setIfInBounds_toArray,List.set_cons_zero,List.set_cons_succ,i64_w,i32_w]
  rfl
 refine take_ (i:=1) (N:=(some 8)) (v:=?_) (a':=?_) #[true,true,false,false,false,false,false,false,false] rfl rfl (by kernel_rfl) (fun _ _ _ h=>h) (Or.inl ⟨by rfl,?_⟩) hHeld ?_ ?_
 rotate_left
 ·rintro w' ⟨s0,s1,s2,s3⟩
  go_simp
  with_reducible rfl
 rotate_left
 ·simp only [Act.put,List.setIfInBounds_toArray,List.set_cons_zero,List.set_cons_succ,i64_w,i32_w]
  rfl
 refine pure_ (i:=3) (N:=(some 10)) (v:=?_) (a':=?_) #[true,true,false,true,false,false,false,false,false] rfl rfl (by kernel_rfl) (fun _ _ _ h=>h) (Or.inl ⟨by rfl,?_⟩) ?_ ?_
 rotate_left
 ·intro w'
  go_simp
  with_reducible rfl
 rotate_left
 ·simp only [Act.put,List.setIfInBounds_toArray,List.set_cons_zero,List.set_cons_succ,i64_w,i32_w]
  rfl
 refine take_ (i:=4) (N:=(some 11)) (v:=?_) (a':=?_) #[true,true,false,true,true,false,false,false,false] rfl rfl (by kernel_rfl) (fun _ _ _ h=>h) (Or.inl ⟨by rfl,?_⟩) hHeld ?_ ?_
 rotate_left
 ·rintro w' ⟨s0,s1,s2,s3⟩
  go_simp
  with_reducible rfl
 rotate_left
 ·simp only [Act.put,List.setIfInBounds_toArray,List.set_cons_zero,List.set_cons_succ,i64_w,i32_w]
  rfl
 refine one_ (i:=2) (N:=(some 9)) #[true,true,true,true,true,false,false,false,false] rfl rfl (by kernel_rfl) (by decide) (fun K hK=>?_)
 refine goes_ Try.func35 (by kernel_rfl) rfl #[.pointer (some ⟨gg,0,none⟩),.agg #[.int .i64 a0,.int .i64 a1]] (by rfl) rfl rfl (by (try simp only [List.map_toArray,List.map_cons,List.map_nil]);first|done|rfl) ?_
 refine (path_calls k wb _ l va G gg gm a0 a1 ja ra HR.out HJA.out (HG.out.below HWB.out HB.out) (Nat.le_trans HWB.out HB.out.size) HRA.out).mono ?_
 rintro e w6 ⟨v,rfl,ho,hb⟩
 refine ⟨_,rfl,?_⟩
 have HO1:=Aside0.mk (Kd.R_lower ho HB.out.size)
 clear ho
 have n0_:=Aside0.mk (below_step HB.out hb)
 have n1_:=Aside0.mk (blk_below BA.out hb)
 have n2_:=Aside0.mk (blk_below BX.out hb)
 clear HB BA BX hb
 have HB:=n0_
 have BA:=n1_
 have BX:=n2_
 clear n0_ n1_ n2_
 obtain ⟨A1,c1,e1⟩:=Kd.R_slice HO1.out
 subst e1
 refine hK.out _ _ ⟨(blk_cell BA.out 0).trans rfl,(blk_cell BA.out 1).trans rfl,(blk_cell BX.out 0).trans rfl,(blk_cell BX.out 1).trans rfl⟩ (fun hHeld=>?_)
 clear hK K
 refine norm_ (a':=?_) ?_ ?_
 rotate_left
 ·show Act.put _ (some 9) _=_
  simp only [Act.put,List.setIfInBounds_toArray,List.set_cons_zero,List.set_cons_succ,i64_w,i32_w]
  rfl
 refine one_ (i:=5) (N:=(some 12)) #[true,true,true,true,true,true,false,false,false] rfl rfl (by kernel_rfl) (by decide) (fun K hK=>?_)
 refine goes_ Try.func35 (by kernel_rfl) rfl #[.pointer (some ⟨gg,0,none⟩),.agg #[.int .i64 b0,.int .i64 b1]] (by rfl) rfl rfl (by (try simp only [List.map_toArray,List.map_cons,List.map_nil]);first|done|rfl) ?_
 refine (path_calls k2 wb _ l va G gg gm b0 b1 jb rb HR.out HJB.out (HG.out.below HWB.out HB.out) (Nat.le_trans HWB.out HB.out.size) HRB.out).mono ?_
 rintro e w7 ⟨v,rfl,ho,hb⟩
 refine ⟨_,rfl,?_⟩
 have HO2:=Aside0.mk (Kd.R_lower ho HB.out.size)
 clear ho
 have n0_:=Aside0.mk (below_step HB.out hb)
 have n1_:=Aside0.mk (blk_below BA.out hb)
 have n2_:=Aside0.mk (blk_below BX.out hb)
 have m0_:=Aside0.mk (Kd.R_below HO1.out hb)
 clear HB BA BX hb
 clear HO1
 have HB:=n0_
 have BA:=n1_
 have BX:=n2_
 have HO1:=m0_
 clear n0_ n1_ n2_ m0_
 obtain ⟨A2,c2,e2⟩:=Kd.R_slice HO2.out
 subst e2
 refine hK.out _ _ ⟨(blk_cell BA.out 0).trans rfl,(blk_cell BA.out 1).trans rfl,(blk_cell BX.out 0).trans rfl,(blk_cell BX.out 1).trans rfl⟩ (fun hHeld=>?_)
 clear hK K
 refine norm_ (a':=?_) ?_ ?_
 rotate_left
 ·show Act.put _ (some 12) _=_
  simp only [Act.put,List.setIfInBounds_toArray,List.set_cons_zero,List.set_cons_succ,i64_w,i32_w]
  rfl
 refine one_ (i:=6) (N:=(some 13)) #[true,true,true,true,true,true,true,false,false] rfl rfl (by kernel_rfl) (by decide) (fun K hK=>?_)
 refine goes_ Try.func34 (by kernel_rfl) rfl #[.slice A1 ra.length c1,.slice A2 rb.length c2] (by rfl) rfl rfl (by (try simp only [List.map_toArray,List.map_cons,List.map_nil]);first|done|rfl) ?_
 refine (slices_Compare_int_int.calls k3 _ _ ra _ _ rb c _ (Kd.R_reads' HO1.out).2.2 (Kd.R_reads' HO1.out).2.1 (Kd.R_reads' HO2.out).2.2 (Kd.R_reads' HO2.out).2.1 HC.out).mono ?_
 rintro e w8 ⟨rfl,hd⟩
 refine ⟨_,rfl,?_⟩
 have hb:=hd.below
 clear hd
 have n0_:=Aside0.mk (below_step HB.out hb)
 have n1_:=Aside0.mk (blk_below BA.out hb)
 have n2_:=Aside0.mk (blk_below BX.out hb)
 clear HB BA BX hb
 have HB:=n0_
 have BA:=n1_
 have BX:=n2_
 clear n0_ n1_ n2_
 refine hK.out _ _ ⟨(blk_cell BA.out 0).trans rfl,(blk_cell BA.out 1).trans rfl,(blk_cell BX.out 0).trans rfl,(blk_cell BX.out 1).trans rfl⟩ (fun hHeld=>?_)
 clear hK K
 refine norm_ (a':=?_) ?_ ?_
 rotate_left
 ·show Act.put _ (some 13) _=_
  simp only [Act.put,List.setIfInBounds_toArray,List.set_cons_zero,List.set_cons_succ,i64_w,i32_w]
  rfl
 refine pure_ (i:=7) (N:=(some 14)) (v:=?_) (a':=?_) #[true,true,true,true,true,true,true,true,false] rfl rfl (by kernel_rfl) (fun _ _ _ h=>h) (Or.inl ⟨by rfl,?_⟩) ?_ ?_
 rotate_left
 ·intro w'
  go_simp
  with_reducible rfl
 rotate_left
 ·simp only [Act.put,List.setIfInBounds_toArray,List.set_cons_zero,List.set_cons_succ,i64_w,i32_w]
  rfl
 refine pure_ (i:=8) (N:=(some 6)) (v:=?_) (a':=?_) #[true,true,true,true,true,true,true,true,true] rfl rfl (by kernel_rfl) (fun _ _ _ h=>h) (Or.inl ⟨by rfl,?_⟩) ?_ ?_
 rotate_left
 ·intro w'
  go_simp
  with_reducible rfl
 rotate_left
 ·simp only [Act.put,List.setIfInBounds_toArray,List.set_cons_zero,List.set_cons_succ,i64_w,i32_w]
  rfl
 refine done_ (by kernel_rfl) ?_
 try go_wp2
 go_ret
 exact ⟨rfl,HB.out⟩
end Go.Proofs.Ytbogfagafdokeaa.QFnExactRangeText
