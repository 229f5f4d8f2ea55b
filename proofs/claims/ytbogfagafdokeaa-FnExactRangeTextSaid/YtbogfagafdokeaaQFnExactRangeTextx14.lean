import Derived.Test.YtbogfagafdokeaaQFnExactRangeTextx12
import Derived.Test.YtbogfagafdokeaaRangeIn
import Derived.StillTailTactics
namespace Go.Proofs.Ytbogfagafdokeaa.QFnExactRangeText
open Go Go.RowKit Go.Proofs.YtbogfagafdokeaaV.PrintWords Go.Proofs.YtbogfagafdokeaaV.PrintLast Go.Proofs.YtbogfagafdokeaaV.PrintMore Go.Proofs.Ytbogfagafdokeaa.TreeIx Go.Proofs.Ytbogfagafdokeaa.MapObj
set_option linter.unusedVariables false
set_option linter.unusedSimpArgs false
theorem rangeB_spots {l:List S59} {a0 a1 b0 b1:Int} (h:rangeB l a0 a1 b0 b1=true):spotB l a0 a1=true∧spotB l b0 b1=true:=by
  unfold rangeB at h
  split at h
  · split at h
    · rename_i h1 h2
      exact ⟨h1,h2⟩
    · cases h
  · cases h
/-! ### impl_RangeText: function 13 -/
noncomputable def fromV (l:List S59) (a0 a1:Int) (i:Nat):Int:=if a0=(rd_T59 l (i:Nat)).f0 then a1 else if lessB l (rd_T59 l (i:Nat)).f0 ((rd_T59 l (i:Nat)).f4.size:Int) a0 a1=true then ((rd_T59 l (i:Nat)).f4.size:Int) else 0
noncomputable def toV (l:List S59) (b0 b1:Int) (i:Nat):Int:=if b0=(rd_T59 l (i:Nat)).f0 then b1 else if lessB l b0 b1 (rd_T59 l (i:Nat)).f0 0=true then 0 else ((rd_T59 l (i:Nat)).f4.size:Int)
noncomputable def pieceR (l:List S59) (a0 a1 b0 b1:Int) (i:Nat):ByteArray:=if (rd_T59 l (i:Nat)).f1=3 then (if fromV l a0 a1 i<toV l b0 b1 i then (rd_T59 l (i:Nat)).f4.extract (fromV l a0 a1 i).toNat (toV l b0 b1 i).toNat else (⟨#[]⟩:ByteArray)) else (⟨#[]⟩:ByteArray)
noncomputable def rangeN (l:List S59) (a0 a1 b0 b1:Int):Nat→ByteArray
  |0=>(⟨#[]⟩:ByteArray)
  |d+1=>rangeN l a0 a1 b0 b1 d++pieceR l a0 a1 b0 b1 d
def sizeN (l:List S59):Nat→Nat
  |0=>0
  |d+1=>sizeN l d+(rd_T59 l (d:Nat)).f4.size
open Classical in
noncomputable def rangeR (l:List S59) (a0 a1 b0 b1:Int):Option ByteArray:=if Right l∧sizeN l l.length≤1048576 then some (if rangeB l a0 a1 b0 b1=true then rangeN l a0 a1 b0 b1 l.length else (⟨#[]⟩:ByteArray)) else none
noncomputable def impl_RangeText.f (k:Nat) (l0_0:List (S59)) (a0:Int) (a1:Int) (b0:Int) (b1:Int):Option (ByteArray):=(impl_TreeOk.f k l0_0).bind fun t1=>(if t1=true then (rangeR l0_0 a0 a1 b0 b1) else (some (⟨#[]⟩:ByteArray)))
theorem impl_RangeText.mono:∀ a0 a1 a2 a3 a4 k,LeO (impl_RangeText.f k a0 a1 a2 a3 a4) (impl_RangeText.f (k+1) a0 a1 a2 a3 a4):=fun a0 a1 a2 a3 a4 k=>LeO.bind (impl_TreeOk.mono _ _) (fun _=>LeO.refl _)
theorem sizeN_le (l:List S59):∀ {a b:Nat},a≤b→sizeN l a≤sizeN l b
  |a,0,h=>by
    have:a=0:=by omega
    rw [this]
    exact Nat.le_refl _
  |a,b+1,h=>by
    by_cases c:a=b+1
    · rw [c]
      exact Nat.le_refl _
    · have:=sizeN_le l (show a≤b by omega)
      show _≤sizeN l b+_
      omega
theorem piece_size (l:List S59) (a0 a1 b0 b1:Int) (i:Nat):(pieceR l a0 a1 b0 b1 i).size≤(rd_T59 l (i:Nat)).f4.size:=by
  unfold pieceR
  split
  · split
    · rw [ByteArray.size_extract]
      omega
    · exact Nat.zero_le _
  · exact Nat.zero_le _
theorem range_size (l:List S59) (a0 a1 b0 b1:Int):∀ d,(rangeN l a0 a1 b0 b1 d).size≤sizeN l d
  |0=>Nat.le_refl _
  |d+1=>by
    have h1:=range_size l a0 a1 b0 b1 d
    have h2:=piece_size l a0 a1 b0 b1 d
    show (rangeN l a0 a1 b0 b1 d++pieceR l a0 a1 b0 b1 d).size≤sizeN l d+_
    rw [ByteArray.size_append]
    omega
section
variable {P:Program} {ops:Array Oper} {o:Oper} {a:Act} {Q:Exit→Act→World→Prop} {rest:List Oper} {Kc:Act→World→Prop}
theorem store_all {w W:World} (hgd:o.guard=none) (ty:TypeId) (x y:Operand) (ho:o.op=.store ty x y) (hd:o.dst=none) (g:Nat) (cells:Array Value)
    (hx:a.eval x=.pointer (some ⟨g,0,none⟩)) (hy:a.eval y=.agg cells) (t:TypeId) (old:Array Value) (hg:W.heap[g]?=some (.cells old t (0,0))) (hi:(P.info? ty).map (·.size)=some cells.size)
    (hold:old.size=cells.size) (h1:cells.all (·.oneCell')=true) (hb:Below w.heap.size w W) (hge:w.heap.size≤g)
    (h:∀ w1,w1.heap[g]?=some (.cells cells t (0,0))→(∀ k,k≠g→w1.heap[k]?=W.heap[k]?)→Below w.heap.size w w1→wpList P ops Q rest a w1):wpList P ops Q (o::rest) a W:=
  wpList_store_row hgd ty x y ho g cells hx hy t old hg hi hold h1 (by rw [hd];exact h _ (setRow_heap W g old cells t _ hg) (fun k hk=>setRow_other W g k cells hk) ⟨hb.os,hb.tape,hb.output,by rw [setRow_size];exact hb.size,fun k hk=>(setRow_other W g k cells (by omega)).trans (hb.block k hk)⟩)
theorem store_row_step {w W:World} (hw:Region.wanted o (yielded ops a.tmps)=true) (ty:TypeId) (x y:Operand) (ho:o.op=.store ty x y) (hd:o.dst=none) (g:Nat) (cells:Array Value)
    (hx:a.eval x=.pointer (some ⟨g,0,none⟩)) (hy:a.eval y=.agg cells) (t:TypeId) (old:Array Value) (hg:W.heap[g]?=some (.cells old t (0,0))) (hi:(P.info? ty).map (·.size)=some cells.size)
    (hold:old.size=cells.size) (h1:cells.all (·.oneCell')=true) (hb:Below w.heap.size w W) (hge:w.heap.size≤g)
    (h:∀ w1,w1.heap[g]?=some (.cells cells t (0,0))→(∀ k,k≠g→w1.heap[k]?=W.heap[k]?)→Below w.heap.size w w1→Kc a w1):if Region.wanted o (yielded ops a.tmps)=true then Oper.wp P o a W Kc Q else Kc (a.put o.dst undef) W:=by
  rw [if_pos hw]
  exact wp_store_row ty x y ho g cells hx hy t old hg hi hold h1 (by rw [hd];exact h _ (setRow_heap W g old cells t _ hg) (fun k hk=>setRow_other W g k cells hk) ⟨hb.os,hb.tape,hb.output,by rw [setRow_size];exact hb.size,fun k hk=>(setRow_other W g k cells (by omega)).trans (hb.block k hk)⟩)
end
structure Spots (wr W:World) (gn g1 g2:Nat) (node c1 c2:Array Value):Prop where
  n:W.heap[gn]?=some (.cells node 59 (0,0))
  x:W.heap[g1]?=some (.cells c1 33 (0,0))
  y:W.heap[g2]?=some (.cells c2 33 (0,0))
  ne:g1≠g2
  e1:gn≠g1
  e2:gn≠g2
  b:Below wr.heap.size wr W
  l1:wr.heap.size≤g1
  l2:wr.heap.size≤g2
theorem Spots.below {wr W W':World} {gn g1 g2:Nat} {node c1 c2:Array Value} (h:Spots wr W gn g1 g2 node c1 c2) (hb:Below W.heap.size W W'):Spots wr W' gn g1 g2 node c1 c2:=
  ⟨blk_below h.n hb,blk_below h.x hb,blk_below h.y hb,h.ne,h.e1,h.e2,below_step h.b hb,h.l1,h.l2⟩
theorem Spots.put1 {wr W W':World} {gn g1 g2:Nat} {node c1 c2 c:Array Value} (h:Spots wr W gn g1 g2 node c1 c2) (hs:W'.heap[g1]?=some (.cells c 33 (0,0))) (hk:∀ k,k≠g1→W'.heap[k]?=W.heap[k]?) (hb:Below wr.heap.size wr W'):Spots wr W' gn g1 g2 node c c2:=
  ⟨(hk gn h.e1).trans h.n,hs,(hk g2 (Ne.symm h.ne)).trans h.y,h.ne,h.e1,h.e2,hb,h.l1,h.l2⟩
theorem Spots.put2 {wr W W':World} {gn g1 g2:Nat} {node c1 c2 c:Array Value} (h:Spots wr W gn g1 g2 node c1 c2) (hs:W'.heap[g2]?=some (.cells c 33 (0,0))) (hk:∀ k,k≠g2→W'.heap[k]?=W.heap[k]?) (hb:Below wr.heap.size wr W'):Spots wr W' gn g1 g2 node c1 c:=
  ⟨(hk gn h.e2).trans h.n,(hk g1 h.ne).trans h.x,hs,h.ne,h.e1,h.e2,hb,h.l1,h.l2⟩
theorem at_no {l:List S59} {id:Int}:∀ {k:Nat},at_ l id k=none→∀ j:Nat,j<k→(rd_T59 l (j:Nat)).f0≠id
  |0,_,j,hj=>by omega
  |k+1,h,j,hj=>by
    unfold at_ at h
    split at h
    · cases h
    · rename_i e
      by_cases c:j=k
      · rw [c]
        exact e
      · exact at_no h j (by omega)
theorem at_self {l:List S59} (R:Right l) {i:Nat} (hi:i<l.length):(atI l (rd_T59 l (i:Nat)).f0).isSome=true:=by
  cases ha:atI l (rd_T59 l (i:Nat)).f0 with
  |none=>exact absurd rfl (at_no ha i hi)
  |some j=>rfl
theorem at_is {l:List S59} (R:Right l) {i:Nat} (hi:i<l.length):atI l (rd_T59 l (i:Nat)).f0=some i:=by
  cases ha:atI l (rd_T59 l (i:Nat)).f0 with
  |none=>exact absurd rfl (at_no ha i hi)
  |some j=>
    obtain ⟨hj,hid⟩:=at__lt ha
    rcases Nat.lt_trichotomy j i with c|c|c
    · exact absurd hid (R.ids j i c hi)
    · rw [c]
    · exact absurd hid.symm (R.ids i j c hj)
theorem spot_bounds {l:List S59} (R:Right l) {i:Nat} (hi:i<l.length) (h3:(rd_T59 l (i:Nat)).f1=3) {id at':Int} (hs:spotB l id at'=true) (e:id=(rd_T59 l (i:Nat)).f0):0≤at'∧at'≤((rd_T59 l (i:Nat)).f4.size:Int):=by
  unfold spotB at hs
  rw [e,at_is R hi] at hs
  have hs:(decide (0≤at') && decide (at'≤most l i))=true:=hs
  rw [Bool.and_eq_true,decide_eq_true_iff,decide_eq_true_iff] at hs
  unfold most at hs
  rw [if_pos h3] at hs
  exact hs
theorem bounds_from {l:List S59} {a0 a1:Int} {i:Nat} (hs:spotB l a0 a1=true) (R:Right l) (hi:i<l.length) (h3:(rd_T59 l (i:Nat)).f1=3):0≤fromV l a0 a1 i∧fromV l a0 a1 i≤((rd_T59 l (i:Nat)).f4.size:Int):=by
  unfold fromV
  split
  · exact spot_bounds R hi h3 hs (by assumption)
  · split<;>omega
theorem bounds_to {l:List S59} {b0 b1:Int} {i:Nat} (hs:spotB l b0 b1=true) (R:Right l) (hi:i<l.length) (h3:(rd_T59 l (i:Nat)).f1=3):0≤toV l b0 b1 i∧toV l b0 b1 i≤((rd_T59 l (i:Nat)).f4.size:Int):=by
  unfold toV
  split
  · exact spot_bounds R hi h3 hs (by assumption)
  · split<;>omega
theorem from_cases (l:List S59) (a0 a1:Int) (i:Nat):((a0==(rd_T59 l (i:Nat)).f0)=true∧fromV l a0 a1 i=a1) ∨ ((a0==(rd_T59 l (i:Nat)).f0)=false∧lessB l (rd_T59 l (i:Nat)).f0 ((rd_T59 l (i:Nat)).f4.size:Int) a0 a1=true∧fromV l a0 a1 i=((rd_T59 l (i:Nat)).f4.size:Int)) ∨ ((a0==(rd_T59 l (i:Nat)).f0)=false∧lessB l (rd_T59 l (i:Nat)).f0 ((rd_T59 l (i:Nat)).f4.size:Int) a0 a1=false∧fromV l a0 a1 i=0):=by
  unfold fromV
  by_cases c:a0=(rd_T59 l (i:Nat)).f0
  · exact .inl ⟨beq_iff_eq.2 c,if_pos c⟩
  · cases h:lessB l (rd_T59 l (i:Nat)).f0 ((rd_T59 l (i:Nat)).f4.size:Int) a0 a1 with
    |true=>exact .inr (.inl ⟨beq_eq_false_iff_ne.2 c,rfl,by rw [if_neg c,if_pos rfl]⟩)
    |false=>exact .inr (.inr ⟨beq_eq_false_iff_ne.2 c,rfl,by rw [if_neg c,if_neg (by simp)]⟩)
theorem to_cases (l:List S59) (b0 b1:Int) (i:Nat):((b0==(rd_T59 l (i:Nat)).f0)=true∧toV l b0 b1 i=b1) ∨ ((b0==(rd_T59 l (i:Nat)).f0)=false∧lessB l b0 b1 (rd_T59 l (i:Nat)).f0 0=true∧toV l b0 b1 i=0) ∨ ((b0==(rd_T59 l (i:Nat)).f0)=false∧lessB l b0 b1 (rd_T59 l (i:Nat)).f0 0=false∧toV l b0 b1 i=((rd_T59 l (i:Nat)).f4.size:Int)):=by
  unfold toV
  by_cases c:b0=(rd_T59 l (i:Nat)).f0
  · exact .inl ⟨beq_iff_eq.2 c,if_pos c⟩
  · cases h:lessB l b0 b1 (rd_T59 l (i:Nat)).f0 0 with
    |true=>exact .inr (.inl ⟨beq_eq_false_iff_ne.2 c,rfl,by rw [if_neg c,if_pos rfl]⟩)
    |false=>exact .inr (.inr ⟨beq_eq_false_iff_ne.2 c,rfl,by rw [if_neg c,if_neg (by simp)]⟩)
set_option maxHeartbeats 40000000 in
set_option maxRecDepth 100000 in
theorem impl_RangeText.calls (k:Nat) (A0_0:Option Addr) (c0_0:Nat) (l0_0:List (S59)) (a0:Int) (a1:Int) (b0:Int) (b1:Int) (r:ByteArray) (w:World) (hr0_0:Kd.C k59 w A0_0 l0_0.length l0_0) (hc0_0:l0_0.length≤c0_0) (h:impl_RangeText.f k l0_0 a0 a1 b0 b1=some r) :
    Calls Try.prog 13 #[.agg #[.slice A0_0 l0_0.length c0_0],.agg #[.int .i64 a0,.int .i64 a1,.int .i64 b0,.int .i64 b1]] w fun e w'=>e=.returned (.string r)∧Below w.heap.size w w':=by
  have HR:=Aside0.mk hr0_0
  have HC:=Aside0.mk hc0_0
  have hu1:=Try.underlying31
  have hu2:=Try.underlying33
  have hu3:=Try.underlying41
  have hu4:=Try.underlying59
  clear hr0_0 hc0_0
  unfold impl_RangeText.f at h
  obtain ⟨t1,h1,h⟩:=Option.bind_eq_some_iff.mp h
  cases t1 with
  |true=>
    rw [if_pos rfl] at h
    unfold rangeR at h
    split at h
    · rename_i hR
      obtain rfl:=Option.some.inj h
      have HRT:=Aside0.mk hR.1
      have HZ:=Aside0.mk hR.2
      have A1:=Aside0.mk h1
      clear h h1 hR
      by_cases sb:rangeB l0_0 a0 a1 b0 b1=true
      · rw [if_pos sb]
        have HSB:=Aside0.mk sb
        have HSA:=Aside0.mk (rangeB_spots sb)
        clear sb
        go_enter Try.func13,Try.ntmps13
        go_wp2_with (first
          |((with_reducible refine gate_dst (N:=2) rfl ?_);refine box_event rfl (N:=2) rfl (cs:=#[.slice A0_0 l0_0.length c0_0]) (t:=31) ?hr ?_;(case hr=>first|(go_simp;done)|(go_simp;rfl));intro gt hg w3 hbox hb;have HB:=Aside0.mk hb;have BT:=Aside0.mk hbox;clear hg hbox hb)
          |((with_reducible refine gate_dst (N:=3) rfl ?_);refine box_event rfl (N:=3) rfl (cs:=#[.int .i64 a0,.int .i64 a1,.int .i64 b0,.int .i64 b1]) (t:=41) ?hr ?_;(case hr=>first|(go_simp;done)|(go_simp;rfl));intro gr hg w4 hbox hb;have n0_:=Aside0.mk (below_step HB.out hb);have n1_:=Aside0.mk (blk_below BT.out hb);have BR:=Aside0.mk hbox;clear HB BT hg hbox hb;have HB:=n0_;have BT:=n1_;clear n0_ n1_;have hcz:w4.cell? ⟨gt,0,none⟩=some (.slice A0_0 l0_0.length c0_0):=(blk_cell BT.out 0).trans rfl)
          |((with_reducible refine gate_dst (N:=14) rfl ?_);refine goesL_ (some 14) rfl rfl Try.func18 (by kernel_rfl) rfl #[.agg #[.slice A0_0 l0_0.length c0_0]] rfl (by (try simp only [List.map_toArray,List.map_cons,List.map_nil]);first|done|rfl) ?_;refine (impl_TreeOk.calls k _ _ l0_0 true _ (Kd.C_below HR.out HB.out) HC.out A1.out).mono ?_;rintro e w5 ⟨rfl,hb⟩;refine ⟨_,rfl,?_⟩;have n0_:=Aside0.mk (below_step HB.out hb);have n1_:=Aside0.mk (blk_below BT.out hb);have n2_:=Aside0.mk (blk_below BR.out hb);clear HB BT BR hb;have HB:=n0_;have BT:=n1_;have BR:=n2_;clear n0_ n1_ n2_;clear hcz;have hcz5:w5.cell? ⟨gt,0,none⟩=some (.slice A0_0 l0_0.length c0_0):=(blk_cell BT.out 0).trans rfl)
          |((with_reducible refine gate_dst (N:=17) rfl ?_);refine goesL_ (some 17) rfl rfl Try.func19 (by kernel_rfl) rfl #[.agg #[.slice A0_0 l0_0.length c0_0]] rfl (by (try simp only [List.map_toArray,List.map_cons,List.map_nil]);first|done|rfl) ?_;refine (newGarden_calls _ A0_0 c0_0 l0_0 (Kd.C_below HR.out HB.out) HC.out HRT.out).mono ?_;rintro e w7 ⟨wb,ad,va,G,gg,gm,rfl,hwb,hA,hG⟩;refine ⟨_,rfl,?_⟩;have hb:=below_then hwb hwb.size hG.bel;have HG:=Aside0.mk hG;have HWB:=Aside0.mk (show wb.heap.size≤w7.heap.size from hG.bel.size);clear hwb hA hG hcz5;have n0_:=Aside0.mk (below_step HB.out hb);have n1_:=Aside0.mk (blk_below BT.out hb);have n2_:=Aside0.mk (blk_below BR.out hb);clear HB BT BR hb;have HB:=n0_;have BT:=n1_;have BR:=n2_;clear n0_ n1_ n2_;have z0:w7.cell? ⟨gr,0,none⟩=some (.int .i64 a0):=(blk_cell BR.out 0).trans rfl;have z1:w7.cell? ⟨gr,1,none⟩=some (.int .i64 a1):=(blk_cell BR.out 1).trans rfl;have z2:w7.cell? ⟨gr,2,none⟩=some (.int .i64 b0):=(blk_cell BR.out 2).trans rfl;have z3:w7.cell? ⟨gr,3,none⟩=some (.int .i64 b1):=(blk_cell BR.out 3).trans rfl)
          |((with_reducible refine gate_dst (N:=20) rfl ?_);(refine goesL_ (some 20) rfl rfl Try.func25 (by kernel_rfl) rfl #[.pointer (some ⟨gg,0,none⟩),.agg #[.int .i64 a0,.int .i64 a1,.int .i64 b0,.int .i64 b1]] rfl (by (try simp only [List.map_toArray,List.map_cons,List.map_nil]);first|done|rfl) ?_;refine (rangeIn_calls wb _ l0_0 va G gg gm a0 a1 b0 b1 HRT.out HG.out HWB.out).mono ?_;rintro e w8 ⟨rfl,hb⟩;refine ⟨_,rfl,?_⟩;rw [HSB.out];have n0_:=Aside0.mk (HG.out.below HWB.out hb);have n1_:=Aside0.mk (Nat.le_trans HWB.out hb.size);have n2_:=Aside0.mk (below_step HB.out hb);have n3_:=Aside0.mk (blk_below BT.out hb);have n4_:=Aside0.mk (blk_below BR.out hb);clear HG HWB HB BT BR hb;have HG:=n0_;have HWB:=n1_;have HB:=n2_;have BT:=n3_;have BR:=n4_;clear n0_ n1_ n2_ n3_ n4_;clear z0 z1 z2 z3;have hcz8:w8.cell? ⟨gt,0,none⟩=some (.slice A0_0 l0_0.length c0_0):=(blk_cell BT.out 0).trans rfl)))
        go_loopg [6,25] l0_0.length (fun kq v6 v25 w'=>∃ (i:Nat),v25=.int .i64 i∧v6=.string (rangeN l0_0 a0 a1 b0 b1 i)∧Aside0 (kq+i=l0_0.length)∧Aside0 (Below w8.heap.size w8 w'))
        case atStart=>exact ⟨0,rfl,rfl,⟨by omega⟩,⟨Below.refl _ _⟩⟩
        case round=>
          clear hcz8
          obtain ⟨i,rfl,rfl,HK,HBL⟩:=hrel
          by_cases ci:i<l0_0.length
          · have d1:decide (((i:Nat):Int)<(l0_0.length:Int))=true:=decide_eq_true (by omega)
            have p1:(0:Int)≤((i:Nat):Int):=by omega
            have q1:((i:Nat):Int)<(l0_0.length:Int):=by omega
            obtain ⟨ad0,A3,c3,e,hx0,hx1,hx2,hx3,hx4,hx5,hl3,hi3⟩:=at_T59 HR.out ((i:Nat):Int) p1 q1
            subst e
            have HBW:=below_step HB.out HBL.out
            replace hx0:=pw_cell_below HBW hx0
            replace hx1:=pw_cell_below HBW hx1
            replace hx2:=pw_cell_below HBW hx2
            replace hx3:=pw_cell_below HBW hx3
            replace hx4:=pw_cell_below HBW hx4
            replace hx5:=pw_cell_below HBW hx5
            rw [Int.toNat_natCast] at hx0 hx1 hx2 hx3 hx4 hx5
            replace p1:=eq_true p1
            replace q1:=eq_true q1
            have hwi:wrap64 (((i:Nat):Int)+1)=((i+1:Nat):Int):=by have:=HRT.out.len4;unfold wrap64;omega
            have HWI:=Aside0.mk hwi
            have hb3:∃ q:Bool,((rd_T59 l0_0 (i:Nat)).f1 != 3)=q∧Aside0 (pieceR l0_0 a0 a1 b0 b1 i=if q=true then (⟨#[]⟩:ByteArray) else (if fromV l0_0 a0 a1 i<toV l0_0 b0 b1 i then (rd_T59 l0_0 (i:Nat)).f4.extract (fromV l0_0 a0 a1 i).toNat (toV l0_0 b0 b1 i).toNat else (⟨#[]⟩:ByteArray)))∧Aside0 (q=false→(rd_T59 l0_0 (i:Nat)).f1=3):=by
              refine ⟨_,rfl,⟨?_⟩,⟨fun hq=>by simpa using hq⟩⟩
              unfold pieceR
              by_cases h3:(rd_T59 l0_0 (i:Nat)).f1=3
              · simp [h3]
              · simp [h3]
            obtain ⟨q3,b3,HP,HQ3⟩:=hb3
            have CI:=Aside0.mk ci
            clear HBW hl3 hi3 hwi ci
            cases q3
            · go_wp2_with (first
                |((with_reducible refine gate_dst (N:=8) rfl ?_);refine box_event rfl (N:=8) rfl (cs:=#[.int .i64 0,.int .i64 0,.string (⟨#[]⟩:ByteArray),.slice none 0 0,.string (⟨#[]⟩:ByteArray),.int .i64 0]) (t:=59) ?hr ?_;(case hr=>first|(go_simp;done)|(go_simp;rfl));intro gn hg wa hbox hb;have HBR:=Aside0.mk hb;have BN:=Aside0.mk hbox;have GN:=Aside0.mk (show wr.heap.size≤gn from Nat.le_of_eq hg.symm);clear hg hbox hb)
                |((with_reducible refine gate_store (t:=59) (p:=8) rfl ?_);(refine store_all (w:=wr) rfl 59 _ _ rfl rfl gn #[.int .i64 (rd_T59 l0_0 (i:Nat)).f0,.int .i64 (rd_T59 l0_0 (i:Nat)).f1,.string (rd_T59 l0_0 (i:Nat)).f2,.slice A3 (rd_T59 l0_0 (i:Nat)).f3.length c3,.string (rd_T59 l0_0 (i:Nat)).f4,.int .i64 (rd_T59 l0_0 (i:Nat)).f5] rfl rfl 59 #[.int .i64 0,.int .i64 0,.string (⟨#[]⟩:ByteArray),.slice none 0 0,.string (⟨#[]⟩:ByteArray),.int .i64 0] BN.out (by kernel_rfl) (by kernel_rfl) (by kernel_rfl) HBR.out GN.out ?_;intro ws hs hk hb;have n0_:=Aside0.mk hb;have n1_:=Aside0.mk hs;clear HBR BN hb hk hs;have HBR:=n0_;have BN:=n1_;clear n0_ n1_;clear hx0 hx1 hx2 hx3 hx4 hx5;have hn0:ws.cell? ⟨gn,0,none⟩=some (.int .i64 (rd_T59 l0_0 (i:Nat)).f0):=(blk_cell BN.out 0).trans rfl;have hn1:ws.cell? ⟨gn,1,none⟩=some (.int .i64 (rd_T59 l0_0 (i:Nat)).f1):=(blk_cell BN.out 1).trans rfl;have hn4:ws.cell? ⟨gn,4,none⟩=some (.string (rd_T59 l0_0 (i:Nat)).f4):=(blk_cell BN.out 4).trans rfl)))
              go_quiet (fail)
              have n0_:=Aside0.mk (pw_below_drewN HBR.out nq)
              have n1_:=Aside0.mk (blk_drewN BN.out nq)
              clear HBR BN hn0 hn1 hn4
              have HBR:=n0_
              have BN:=n1_
              clear n0_ n1_
              generalize ws.drewN nq=wd at HBR BN ⊢
              go_wp2
              refine start_ (n:=13) (S:=fun w'=>w'.cell? ⟨gn,0,none⟩=some (.int .i64 (rd_T59 l0_0 (i:Nat)).f0)∧w'.cell? ⟨gn,4,none⟩=some (.string (rd_T59 l0_0 (i:Nat)).f4)) (ds:=[]) #[false,false,false,false,false,false,false,false,false,false,false,false,false] (by kernel_rfl) rfl rfl ⟨(blk_cell BN.out 0).trans rfl,(blk_cell BN.out 4).trans rfl⟩ (fun hHeld=>?_)
              have n0_:=Aside0.mk (below_drew1 HBR.out)
              have n1_:=Aside0.mk (blk_drew BN.out)
              clear HBR BN
              have HBR:=n0_
              have BN:=n1_
              clear n0_ n1_
              generalize wd.drew=wd1 at HBR BN hHeld ⊢
              refine pure_ (i:=0) (N:=(some 35)) (v:=?_) (a':=?_) #[true,false,false,false,false,false,false,false,false,false,false,false,false] rfl rfl (by kernel_rfl) (fun _ _ _ h=>h) (Or.inl ⟨by rfl,?_⟩) ?_ ?_
              rotate_left
              · intro w'
                go_simp
                with_reducible rfl
              rotate_left
              · simp only [Act.put,List.setIfInBounds_toArray,List.set_cons_zero,List.set_cons_succ,i64_w,i32_w]
                rfl
              refine take_ (i:=1) (N:=(some 36)) (v:=?_) (a':=?_) #[true,true,false,false,false,false,false,false,false,false,false,false,false] rfl rfl (by kernel_rfl) (fun _ _ _ h=>h) (Or.inl ⟨by rfl,?_⟩) hHeld ?_ ?_
              rotate_left
              · rintro w' ⟨s0,s1⟩
                go_simp
                with_reducible rfl
              rotate_left
              · simp only [Act.put,List.setIfInBounds_toArray,List.set_cons_zero,List.set_cons_succ,i64_w,i32_w]
                rfl
              refine pure_ (i:=2) (N:=(some 37)) (v:=?_) (a':=?_) #[true,true,true,false,false,false,false,false,false,false,false,false,false] rfl rfl (by kernel_rfl) (fun _ _ _ h=>h) (Or.inl ⟨by rfl,?_⟩) ?_ ?_
              rotate_left
              · intro w'
                go_simp
                with_reducible rfl
              rotate_left
              · simp only [Act.put,List.setIfInBounds_toArray,List.set_cons_zero,List.set_cons_succ,i64_w,i32_w]
                rfl
              refine pure_ (i:=3) (N:=(some 38)) (v:=?_) (a':=?_) #[true,true,true,true,false,false,false,false,false,false,false,false,false] rfl rfl (by kernel_rfl) (fun _ _ _ h=>h) (Or.inl ⟨by rfl,?_⟩) ?_ ?_
              rotate_left
              · intro w'
                go_simp
                with_reducible rfl
              rotate_left
              · simp only [Act.put,List.setIfInBounds_toArray,List.set_cons_zero,List.set_cons_succ,i64_w,i32_w]
                rfl
              refine take_ (i:=4) (N:=(some 39)) (v:=?_) (a':=?_) #[true,true,true,true,true,false,false,false,false,false,false,false,false] rfl rfl (by kernel_rfl) (fun _ _ _ h=>h) (Or.inl ⟨by rfl,?_⟩) hHeld ?_ ?_
              rotate_left
              · rintro w' ⟨s0,s1⟩
                go_simp
                with_reducible rfl
              rotate_left
              · simp only [Act.put,List.setIfInBounds_toArray,List.set_cons_zero,List.set_cons_succ,i64_w,i32_w]
                rfl
              refine pure_ (i:=5) (N:=(some 40)) (v:=?_) (a':=?_) #[true,true,true,true,true,true,false,false,false,false,false,false,false] rfl rfl (by kernel_rfl) (fun _ _ _ h=>h) (Or.inl ⟨by rfl,?_⟩) ?_ ?_
              rotate_left
              · intro w'
                go_simp
                with_reducible rfl
              rotate_left
              · simp only [Act.put,List.setIfInBounds_toArray,List.set_cons_zero,List.set_cons_succ,i64_w,i32_w]
                rfl
              refine take_ (i:=6) (N:=(some 41)) (v:=?_) (a':=?_) #[true,true,true,true,true,true,true,false,false,false,false,false,false] rfl rfl (by kernel_rfl) (fun _ _ _ h=>h) (Or.inl ⟨by rfl,?_⟩) hHeld ?_ ?_
              rotate_left
              · rintro w' ⟨s0,s1⟩
                go_simp
                with_reducible rfl
              rotate_left
              · simp only [Act.put,List.setIfInBounds_toArray,List.set_cons_zero,List.set_cons_succ,i64_w,i32_w]
                rfl
              refine pure_ (i:=7) (N:=(some 42)) (v:=?_) (a':=?_) #[true,true,true,true,true,true,true,true,false,false,false,false,false] rfl rfl (by kernel_rfl) (fun _ _ _ h=>h) (Or.inl ⟨by rfl,?_⟩) ?_ ?_
              rotate_left
              · intro w'
                go_simp
                with_reducible rfl
              rotate_left
              · simp only [Act.put,List.setIfInBounds_toArray,List.set_cons_zero,List.set_cons_succ,i64_w,i32_w]
                rfl
              refine pure_ (i:=8) (N:=(some 43)) (v:=?_) (a':=?_) #[true,true,true,true,true,true,true,true,true,false,false,false,false] rfl rfl (by kernel_rfl) (fun _ _ _ h=>h) (Or.inl ⟨by rfl,?_⟩) ?_ ?_
              rotate_left
              · intro w'
                go_simp
                with_reducible rfl
              rotate_left
              · simp only [Act.put,List.setIfInBounds_toArray,List.set_cons_zero,List.set_cons_succ,i64_w,i32_w]
                rfl
              refine join_ (σ:=Nat×Nat) 2 #[true,true,true,true,true,true,true,true,true,true,true,false,false] (fun s=>[(11,.pointer (some ⟨s.1,0,none⟩)),(12,.pointer (some ⟨s.2,0,none⟩))]) (fun s w'=>Spots wr w' gn s.1 s.2 #[.int .i64 (rd_T59 l0_0 (i:Nat)).f0,.int .i64 (rd_T59 l0_0 (i:Nat)).f1,.string (rd_T59 l0_0 (i:Nat)).f2,.slice A3 (rd_T59 l0_0 (i:Nat)).f3.length c3,.string (rd_T59 l0_0 (i:Nat)).f4,.int .i64 (rd_T59 l0_0 (i:Nat)).f5] #[.int .i64 0,.int .i64 0] #[.int .i64 0,.int .i64 0]) ?cont ?orders
              case orders=>
                intro hcont
                refine two_ (i:=9) (j:=10) (Ni:=some 11) (Nj:=some 12) #[true,true,true,true,true,true,true,true,true,true,false,false,false] #[true,true,true,true,true,true,true,true,true,false,true,false,false] rfl rfl rfl rfl (by kernel_rfl) (by decide) (by decide) (fun K hK=>?_) (fun K hK=>?_)
                · refine box_step (by rfl) (N:=11) rfl (cs:=#[.int .i64 0,.int .i64 0]) (t:=33) (by first|(go_simp;done)|(go_simp;rfl)) ?_
                  intro g1 hg1 wi hboxg1 hbg1
                  have bn1:=blk_below BN.out hbg1
                  refine hK.out _ _ ⟨(blk_cell bn1 0).trans rfl,(blk_cell bn1 4).trans rfl⟩ (fun hHeld2=>?_)
                  clear hK K
                  refine norm_ (a':=?_) ?_ ?_
                  rotate_left
                  · show Act.put _ (some 11) _=_
                    simp only [Act.put,List.setIfInBounds_toArray,List.set_cons_zero,List.set_cons_succ,i64_w,i32_w]
                    rfl
                  refine one_ (i:=10) (N:=(some 12)) #[true,true,true,true,true,true,true,true,true,true,true,false,false] rfl rfl (by kernel_rfl) (by decide) (fun K hK=>?_)
                  refine box_step (by rfl) (N:=12) rfl (cs:=#[.int .i64 0,.int .i64 0]) (t:=33) (by first|(go_simp;done)|(go_simp;rfl)) ?_
                  intro g2 hg2 wj hboxg2 hbg2
                  have bn2:=blk_below bn1 hbg2
                  refine hK.out _ _ ⟨(blk_cell bn2 0).trans rfl,(blk_cell bn2 4).trans rfl⟩ (fun hHeld3=>?_)
                  clear hK K
                  have lt1:=blk_lt BN.out
                  have lt2:=blk_lt hboxg1
                  have sz1:=HBR.out.size
                  have sz2:=hbg1.size
                  refine norm_ (a':=putAll _ [(11,.pointer (some ⟨g1,0,none⟩)),(12,.pointer (some ⟨g2,0,none⟩))]) (by rfl) (hcont (g1,g2) _ ?_)
                  exact ⟨bn2,blk_below hboxg1 hbg2,hboxg2,by omega,by omega,by omega,below_step (below_step HBR.out hbg1) hbg2,by omega,by omega⟩
                · refine box_step (by rfl) (N:=12) rfl (cs:=#[.int .i64 0,.int .i64 0]) (t:=33) (by first|(go_simp;done)|(go_simp;rfl)) ?_
                  intro g2 hg2 wi hboxg2 hbg2
                  have bn1:=blk_below BN.out hbg2
                  refine hK.out _ _ ⟨(blk_cell bn1 0).trans rfl,(blk_cell bn1 4).trans rfl⟩ (fun hHeld2=>?_)
                  clear hK K
                  refine norm_ (a':=?_) ?_ ?_
                  rotate_left
                  · show Act.put _ (some 12) _=_
                    simp only [Act.put,List.setIfInBounds_toArray,List.set_cons_zero,List.set_cons_succ,i64_w,i32_w]
                    rfl
                  refine one_ (i:=9) (N:=(some 11)) #[true,true,true,true,true,true,true,true,true,true,true,false,false] rfl rfl (by kernel_rfl) (by decide) (fun K hK=>?_)
                  refine box_step (by rfl) (N:=11) rfl (cs:=#[.int .i64 0,.int .i64 0]) (t:=33) (by first|(go_simp;done)|(go_simp;rfl)) ?_
                  intro g1 hg1 wj hboxg1 hbg1
                  have bn2:=blk_below bn1 hbg1
                  refine hK.out _ _ ⟨(blk_cell bn2 0).trans rfl,(blk_cell bn2 4).trans rfl⟩ (fun hHeld3=>?_)
                  clear hK K
                  have lt1:=blk_lt BN.out
                  have lt2:=blk_lt hboxg2
                  have sz1:=HBR.out.size
                  have sz2:=hbg2.size
                  refine norm_ (a':=putAll _ [(11,.pointer (some ⟨g1,0,none⟩)),(12,.pointer (some ⟨g2,0,none⟩))]) (by rfl) (hcont (g1,g2) _ ?_)
                  exact ⟨bn2,hboxg1,blk_below hboxg2 hbg1,by omega,by omega,by omega,below_step (below_step HBR.out hbg2) hbg1,by omega,by omega⟩
              case cont=>
                rintro ⟨g1,g2⟩ w2 HS0
                have HS:=Aside0.mk HS0
                clear HS0
                refine norm_ (a':=?_) ?_ ?_
                rotate_left
                · show putAll _ [(11,.pointer (some ⟨g1,0,none⟩)),(12,.pointer (some ⟨g2,0,none⟩))]=_
                  simp only [putAll,Act.put,List.setIfInBounds_toArray,List.set_cons_zero,List.set_cons_succ,i64_w,i32_w]
                  rfl
                clear HBR BN hHeld
                refine one_ (i:=11) (N:=none) #[true,true,true,true,true,true,true,true,true,true,true,true,false] rfl rfl (by kernel_rfl) (by decide) (fun K hK=>?_)
                refine store_row_step (w:=wr) (by rfl) 33 _ _ rfl rfl g1 #[.int .i64 (rd_T59 l0_0 (i:Nat)).f0,.int .i64 0] rfl rfl 33 #[.int .i64 0,.int .i64 0] HS.out.x (by kernel_rfl) (by kernel_rfl) (by kernel_rfl) HS.out.b HS.out.l1 ?_
                intro w3 hs hk hb
                have HS1:=Aside0.mk (HS.out.put1 hs hk hb)
                clear HS hs hk hb
                refine hK.out _ _ ⟨(blk_cell HS1.out.n 0).trans rfl,(blk_cell HS1.out.n 4).trans rfl⟩ (fun hHeld=>?_)
                clear hK K
                refine one_ (i:=12) (N:=none) #[true,true,true,true,true,true,true,true,true,true,true,true,true] rfl rfl (by kernel_rfl) (by decide) (fun K hK=>?_)
                refine store_row_step (w:=wr) (by rfl) 33 _ _ rfl rfl g2 #[.int .i64 (rd_T59 l0_0 (i:Nat)).f0,.int .i64 ((rd_T59 l0_0 (i:Nat)).f4.size:Int)] rfl rfl 33 #[.int .i64 0,.int .i64 0] HS1.out.y (by kernel_rfl) (by kernel_rfl) (by kernel_rfl) HS1.out.b HS1.out.l2 ?_
                intro w4 hs hk hb
                have HS:=Aside0.mk (HS1.out.put2 hs hk hb)
                clear HS1 hs hk hb hHeld
                refine hK.out _ _ ⟨(blk_cell HS.out.n 0).trans rfl,(blk_cell HS.out.n 4).trans rfl⟩ (fun hHeld=>?_)
                clear hK K hHeld
                refine done_ (by kernel_rfl) ?_
                have z0:w4.cell? ⟨gr,0,none⟩=some (.int .i64 a0):=(blk_cell (blk_below (blk_below BR.out HBL.out) HS.out.b) 0).trans rfl
                have z1:w4.cell? ⟨gr,1,none⟩=some (.int .i64 a1):=(blk_cell (blk_below (blk_below BR.out HBL.out) HS.out.b) 1).trans rfl
                have z2:w4.cell? ⟨gr,2,none⟩=some (.int .i64 b0):=(blk_cell (blk_below (blk_below BR.out HBL.out) HS.out.b) 2).trans rfl
                have z3:w4.cell? ⟨gr,3,none⟩=some (.int .i64 b1):=(blk_cell (blk_below (blk_below BR.out HBL.out) HS.out.b) 3).trans rfl
                have hn0:w4.cell? ⟨gn,0,none⟩=some (.int .i64 (rd_T59 l0_0 (i:Nat)).f0):=(blk_cell HS.out.n 0).trans rfl
                have hn4:w4.cell? ⟨gn,4,none⟩=some (.string (rd_T59 l0_0 (i:Nat)).f4):=(blk_cell HS.out.n 4).trans rfl
                have hx0:w4.cell? ⟨g1,0,none⟩=some (.int .i64 (rd_T59 l0_0 (i:Nat)).f0):=(blk_cell HS.out.x 0).trans rfl
                have hx1:w4.cell? ⟨g1,1,none⟩=some (.int .i64 0):=(blk_cell HS.out.x 1).trans rfl
                have hy0:w4.cell? ⟨g2,0,none⟩=some (.int .i64 (rd_T59 l0_0 (i:Nat)).f0):=(blk_cell HS.out.y 0).trans rfl
                have hy1:w4.cell? ⟨g2,1,none⟩=some (.int .i64 ((rd_T59 l0_0 (i:Nat)).f4.size:Int)):=(blk_cell HS.out.y 1).trans rfl
                have SME:=Aside0.mk (at_self HRT.out CI.out)
                have hsz:(rangeN l0_0 a0 a1 b0 b1 i).size+0≤1048576:=by have h1:=range_size l0_0 a0 a1 b0 b1 i;have h2:=sizeN_le l0_0 (Nat.le_of_lt CI.out);have:=HZ.out;omega
                have HSZ:=Aside0.mk hsz
                clear hsz
                have HBD:=Aside0.mk (bounds_from HSA.out.1 HRT.out CI.out (HQ3.out (by first|rfl|trivial)))
                have HBT:=Aside0.mk (bounds_to HSA.out.2 HRT.out CI.out (HQ3.out (by first|rfl|trivial)))
                have HSY:=Aside0.mk (show (rangeN l0_0 a0 a1 b0 b1 i).size+(rd_T59 l0_0 (i:Nat)).f4.size≤1048576 from by have h1:=range_size l0_0 a0 a1 b0 b1 i;have h2:=sizeN_le l0_0 (show i+1≤l0_0.length from CI.out);have h3:sizeN l0_0 (i+1)=sizeN l0_0 i+(rd_T59 l0_0 (i:Nat)).f4.size:=rfl;have:=HZ.out;omega)
                rcases from_cases l0_0 a0 a1 i with ⟨qa,fa⟩|⟨qa,la,fa⟩|⟨qa,la,fa⟩
                all_goals
                  rcases to_cases l0_0 b0 b1 i with ⟨qb,fb⟩|⟨qb,lb,fb⟩|⟨qb,lb,fb⟩
                all_goals
                  (try have LA:=Aside0.mk la)
                  (try have LB:=Aside0.mk lb)
                  try clear la
                  try clear lb
                  by_cases clt:fromV l0_0 a0 a1 i<toV l0_0 b0 b1 i
                  · first
                    |(exfalso;have h1:=HBT.out;rw [fa,fb] at clt;rw [fb] at h1;omega)
                    | (have HBE:=Aside0.mk (And.intro HBD.out HBT.out)
                       have dlt:=decide_eq_true clt
                       have k1:=HBD.out.1
                       have k2:=Int.le_of_lt clt
                       have k3:=HBT.out.2
                       rw [fa,fb] at dlt
                       rw [fa] at k1
                       rw [fa,fb] at k2
                       rw [fb] at k3
                       have k1b:=decide_eq_true k1
                       have k2b:=decide_eq_true k2
                       have k3b:=decide_eq_true k3
                       have hcat:(rangeN l0_0 a0 a1 b0 b1 i).size+((rd_T59 l0_0 (i:Nat)).f4.extract (fromV l0_0 a0 a1 i).toNat (toV l0_0 b0 b1 i).toNat).size≤9223372036854775807:=by have h1:=HSY.out;have h2:((rd_T59 l0_0 (i:Nat)).f4.extract (fromV l0_0 a0 a1 i).toNat (toV l0_0 b0 b1 i).toNat).size≤(rd_T59 l0_0 (i:Nat)).f4.size:=(by rw [ByteArray.size_extract];omega);omega
                       rw [fa,fb] at hcat
                       have HP2:=Aside0.mk (show pieceR l0_0 a0 a1 b0 b1 i=(rd_T59 l0_0 (i:Nat)).f4.extract (fromV l0_0 a0 a1 i).toNat (toV l0_0 b0 b1 i).toNat from by rw [HP.out];simp [clt])
                       have HP3:=HP2.out
                       rw [fa,fb] at HP3
                       clear HP2
                       have HP2:=Aside0.mk HP3
                       (try simp only [Int.toNat_natCast,Int.toNat_zero] at hcat)
                       replace k1:=eq_true k1
                       replace k2:=eq_true k2
                       replace k3:=eq_true k3
                       (try have dn:decide (0<(rd_T59 l0_0 (i:Nat)).f4.size)=true:=decide_eq_true (by have h_:=of_decide_eq_true dlt;omega))
                       have hc3:(rangeN l0_0 a0 a1 b0 b1 i).size+(rd_T59 l0_0 (i:Nat)).f4.size≤9223372036854775807:=by have h1:=HSY.out;omega
                       clear clt HP3 fa fb
                       go_wp2_with (first
                         |((with_reducible refine gate_dst (N:=59) rfl ?_);(refine goesL_ (some 59) rfl rfl Try.func21 (by kernel_rfl) rfl #[.pointer (some ⟨gg,0,none⟩),.agg #[.int .i64 (rd_T59 l0_0 (i:Nat)).f0,.int .i64 ((rd_T59 l0_0 (i:Nat)).f4.size:Int)],.agg #[.int .i64 a0,.int .i64 a1]] rfl (by (try simp only [List.map_toArray,List.map_cons,List.map_nil]);first|done|rfl) ?_;refine (less_b wb _ l0_0 va G gg gm (rd_T59 l0_0 (i:Nat)).f0 ((rd_T59 l0_0 (i:Nat)).f4.size:Int) a0 a1 HRT.out SME.out (spotB_some HSA.out.1) (HG.out.below HWB.out (below_step HBL.out HS.out.b)) (Nat.le_trans HWB.out (below_step HBL.out HS.out.b).size)).mono ?_;rintro e w5 ⟨rfl,hb⟩;refine ⟨_,rfl,?_⟩;rw [LA.out];have n0_:=Aside0.mk (HS.out.below hb);clear HS hb;have HS:=n0_;clear n0_;clear z0 z1 z2 z3 hn0 hn4 hx0 hx1 hy0 hy1;have z0:w5.cell? ⟨gr,0,none⟩=some (.int .i64 a0):=(blk_cell (blk_below (blk_below BR.out HBL.out) HS.out.b) 0).trans rfl;have z1:w5.cell? ⟨gr,1,none⟩=some (.int .i64 a1):=(blk_cell (blk_below (blk_below BR.out HBL.out) HS.out.b) 1).trans rfl;have z2:w5.cell? ⟨gr,2,none⟩=some (.int .i64 b0):=(blk_cell (blk_below (blk_below BR.out HBL.out) HS.out.b) 2).trans rfl;have z3:w5.cell? ⟨gr,3,none⟩=some (.int .i64 b1):=(blk_cell (blk_below (blk_below BR.out HBL.out) HS.out.b) 3).trans rfl;have hn0:w5.cell? ⟨gn,0,none⟩=some (.int .i64 (rd_T59 l0_0 (i:Nat)).f0):=(blk_cell HS.out.n 0).trans rfl;have hn4:w5.cell? ⟨gn,4,none⟩=some (.string (rd_T59 l0_0 (i:Nat)).f4):=(blk_cell HS.out.n 4).trans rfl;have hx0:w5.cell? ⟨g1,0,none⟩=some (.int .i64 (rd_T59 l0_0 (i:Nat)).f0):=(blk_cell HS.out.x 0).trans rfl;have hx1:w5.cell? ⟨g1,1,none⟩=some (.int .i64 0):=(blk_cell HS.out.x 1).trans rfl;have hy0:w5.cell? ⟨g2,0,none⟩=some (.int .i64 (rd_T59 l0_0 (i:Nat)).f0):=(blk_cell HS.out.y 0).trans rfl;have hy1:w5.cell? ⟨g2,1,none⟩=some (.int .i64 ((rd_T59 l0_0 (i:Nat)).f4.size:Int)):=(blk_cell HS.out.y 1).trans rfl))
                         |((with_reducible refine gate_dst (N:=76) rfl ?_);(refine goesL_ (some 76) rfl rfl Try.func21 (by kernel_rfl) rfl #[.pointer (some ⟨gg,0,none⟩),.agg #[.int .i64 b0,.int .i64 b1],.agg #[.int .i64 (rd_T59 l0_0 (i:Nat)).f0,.int .i64 0]] rfl (by (try simp only [List.map_toArray,List.map_cons,List.map_nil]);first|done|rfl) ?_;refine (less_b wb _ l0_0 va G gg gm b0 b1 (rd_T59 l0_0 (i:Nat)).f0 0 HRT.out (spotB_some HSA.out.2) SME.out (HG.out.below HWB.out (below_step HBL.out HS.out.b)) (Nat.le_trans HWB.out (below_step HBL.out HS.out.b).size)).mono ?_;rintro e w6 ⟨rfl,hb⟩;refine ⟨_,rfl,?_⟩;rw [LB.out];have n0_:=Aside0.mk (HS.out.below hb);clear HS hb;have HS:=n0_;clear n0_;clear z0 z1 z2 z3 hn0 hn4 hx0 hx1 hy0 hy1;have z0:w6.cell? ⟨gr,0,none⟩=some (.int .i64 a0):=(blk_cell (blk_below (blk_below BR.out HBL.out) HS.out.b) 0).trans rfl;have z1:w6.cell? ⟨gr,1,none⟩=some (.int .i64 a1):=(blk_cell (blk_below (blk_below BR.out HBL.out) HS.out.b) 1).trans rfl;have z2:w6.cell? ⟨gr,2,none⟩=some (.int .i64 b0):=(blk_cell (blk_below (blk_below BR.out HBL.out) HS.out.b) 2).trans rfl;have z3:w6.cell? ⟨gr,3,none⟩=some (.int .i64 b1):=(blk_cell (blk_below (blk_below BR.out HBL.out) HS.out.b) 3).trans rfl;have hn0:w6.cell? ⟨gn,0,none⟩=some (.int .i64 (rd_T59 l0_0 (i:Nat)).f0):=(blk_cell HS.out.n 0).trans rfl;have hn4:w6.cell? ⟨gn,4,none⟩=some (.string (rd_T59 l0_0 (i:Nat)).f4):=(blk_cell HS.out.n 4).trans rfl;have hx0:w6.cell? ⟨g1,0,none⟩=some (.int .i64 (rd_T59 l0_0 (i:Nat)).f0):=(blk_cell HS.out.x 0).trans rfl;have hx1:w6.cell? ⟨g1,1,none⟩=some (.int .i64 0):=(blk_cell HS.out.x 1).trans rfl;have hy0:w6.cell? ⟨g2,0,none⟩=some (.int .i64 (rd_T59 l0_0 (i:Nat)).f0):=(blk_cell HS.out.y 0).trans rfl;have hy1:w6.cell? ⟨g2,1,none⟩=some (.int .i64 ((rd_T59 l0_0 (i:Nat)).f4.size:Int)):=(blk_cell HS.out.y 1).trans rfl)))
                       go_roundg (gk - 1)
                       case measure=>have:=HK.out;have:=CI.out;omega
                       case rel=>exact ⟨i+1,congrArg (Value.int .i64) HWI.out,(by show Value.string _=Value.string (_++_);first|(rw [HP2.out];done)|(rw [HP2.out];rfl)|(rw [HP2.out];simp only [Int.toNat_natCast,Int.toNat_zero];done)|(rw [HP2.out];simp only [Int.toNat_natCast,Int.toNat_zero];rfl)|(rw [HP2.out];simp)),⟨by have:=HK.out;have:=CI.out;omega⟩,⟨below_step HBL.out HS.out.b⟩⟩)
                  · have HBE:=Aside0.mk (And.intro HBD.out HBT.out)
                    have dlt:=decide_eq_false clt
                    rw [fa,fb] at dlt
                    have HP2:=Aside0.mk (show pieceR l0_0 a0 a1 b0 b1 i=(⟨#[]⟩:ByteArray) from by rw [HP.out];simp [clt])
                    (try have dn:decide (0<(rd_T59 l0_0 (i:Nat)).f4.size)=false:=decide_eq_false (by have h_:=of_decide_eq_false dlt;omega))
                    clear clt fa fb
                    go_wp2_with (first
                      |((with_reducible refine gate_dst (N:=59) rfl ?_);(refine goesL_ (some 59) rfl rfl Try.func21 (by kernel_rfl) rfl #[.pointer (some ⟨gg,0,none⟩),.agg #[.int .i64 (rd_T59 l0_0 (i:Nat)).f0,.int .i64 ((rd_T59 l0_0 (i:Nat)).f4.size:Int)],.agg #[.int .i64 a0,.int .i64 a1]] rfl (by (try simp only [List.map_toArray,List.map_cons,List.map_nil]);first|done|rfl) ?_;refine (less_b wb _ l0_0 va G gg gm (rd_T59 l0_0 (i:Nat)).f0 ((rd_T59 l0_0 (i:Nat)).f4.size:Int) a0 a1 HRT.out SME.out (spotB_some HSA.out.1) (HG.out.below HWB.out (below_step HBL.out HS.out.b)) (Nat.le_trans HWB.out (below_step HBL.out HS.out.b).size)).mono ?_;rintro e w5 ⟨rfl,hb⟩;refine ⟨_,rfl,?_⟩;rw [LA.out];have n0_:=Aside0.mk (HS.out.below hb);clear HS hb;have HS:=n0_;clear n0_;clear z0 z1 z2 z3 hn0 hn4 hx0 hx1 hy0 hy1;have z0:w5.cell? ⟨gr,0,none⟩=some (.int .i64 a0):=(blk_cell (blk_below (blk_below BR.out HBL.out) HS.out.b) 0).trans rfl;have z1:w5.cell? ⟨gr,1,none⟩=some (.int .i64 a1):=(blk_cell (blk_below (blk_below BR.out HBL.out) HS.out.b) 1).trans rfl;have z2:w5.cell? ⟨gr,2,none⟩=some (.int .i64 b0):=(blk_cell (blk_below (blk_below BR.out HBL.out) HS.out.b) 2).trans rfl;have z3:w5.cell? ⟨gr,3,none⟩=some (.int .i64 b1):=(blk_cell (blk_below (blk_below BR.out HBL.out) HS.out.b) 3).trans rfl;have hn0:w5.cell? ⟨gn,0,none⟩=some (.int .i64 (rd_T59 l0_0 (i:Nat)).f0):=(blk_cell HS.out.n 0).trans rfl;have hn4:w5.cell? ⟨gn,4,none⟩=some (.string (rd_T59 l0_0 (i:Nat)).f4):=(blk_cell HS.out.n 4).trans rfl;have hx0:w5.cell? ⟨g1,0,none⟩=some (.int .i64 (rd_T59 l0_0 (i:Nat)).f0):=(blk_cell HS.out.x 0).trans rfl;have hx1:w5.cell? ⟨g1,1,none⟩=some (.int .i64 0):=(blk_cell HS.out.x 1).trans rfl;have hy0:w5.cell? ⟨g2,0,none⟩=some (.int .i64 (rd_T59 l0_0 (i:Nat)).f0):=(blk_cell HS.out.y 0).trans rfl;have hy1:w5.cell? ⟨g2,1,none⟩=some (.int .i64 ((rd_T59 l0_0 (i:Nat)).f4.size:Int)):=(blk_cell HS.out.y 1).trans rfl))
                      |((with_reducible refine gate_dst (N:=76) rfl ?_);(refine goesL_ (some 76) rfl rfl Try.func21 (by kernel_rfl) rfl #[.pointer (some ⟨gg,0,none⟩),.agg #[.int .i64 b0,.int .i64 b1],.agg #[.int .i64 (rd_T59 l0_0 (i:Nat)).f0,.int .i64 0]] rfl (by (try simp only [List.map_toArray,List.map_cons,List.map_nil]);first|done|rfl) ?_;refine (less_b wb _ l0_0 va G gg gm b0 b1 (rd_T59 l0_0 (i:Nat)).f0 0 HRT.out (spotB_some HSA.out.2) SME.out (HG.out.below HWB.out (below_step HBL.out HS.out.b)) (Nat.le_trans HWB.out (below_step HBL.out HS.out.b).size)).mono ?_;rintro e w6 ⟨rfl,hb⟩;refine ⟨_,rfl,?_⟩;rw [LB.out];have n0_:=Aside0.mk (HS.out.below hb);clear HS hb;have HS:=n0_;clear n0_;clear z0 z1 z2 z3 hn0 hn4 hx0 hx1 hy0 hy1;have z0:w6.cell? ⟨gr,0,none⟩=some (.int .i64 a0):=(blk_cell (blk_below (blk_below BR.out HBL.out) HS.out.b) 0).trans rfl;have z1:w6.cell? ⟨gr,1,none⟩=some (.int .i64 a1):=(blk_cell (blk_below (blk_below BR.out HBL.out) HS.out.b) 1).trans rfl;have z2:w6.cell? ⟨gr,2,none⟩=some (.int .i64 b0):=(blk_cell (blk_below (blk_below BR.out HBL.out) HS.out.b) 2).trans rfl;have z3:w6.cell? ⟨gr,3,none⟩=some (.int .i64 b1):=(blk_cell (blk_below (blk_below BR.out HBL.out) HS.out.b) 3).trans rfl;have hn0:w6.cell? ⟨gn,0,none⟩=some (.int .i64 (rd_T59 l0_0 (i:Nat)).f0):=(blk_cell HS.out.n 0).trans rfl;have hn4:w6.cell? ⟨gn,4,none⟩=some (.string (rd_T59 l0_0 (i:Nat)).f4):=(blk_cell HS.out.n 4).trans rfl;have hx0:w6.cell? ⟨g1,0,none⟩=some (.int .i64 (rd_T59 l0_0 (i:Nat)).f0):=(blk_cell HS.out.x 0).trans rfl;have hx1:w6.cell? ⟨g1,1,none⟩=some (.int .i64 0):=(blk_cell HS.out.x 1).trans rfl;have hy0:w6.cell? ⟨g2,0,none⟩=some (.int .i64 (rd_T59 l0_0 (i:Nat)).f0):=(blk_cell HS.out.y 0).trans rfl;have hy1:w6.cell? ⟨g2,1,none⟩=some (.int .i64 ((rd_T59 l0_0 (i:Nat)).f4.size:Int)):=(blk_cell HS.out.y 1).trans rfl)))
                    go_roundg (gk - 1)
                    case measure=>have:=HK.out;have:=CI.out;omega
                    case rel=>exact ⟨i+1,congrArg (Value.int .i64) HWI.out,(by show Value.string _=Value.string (_++_);rw [HP2.out];exact congrArg Value.string ByteArray.append_empty.symm),⟨by have:=HK.out;have:=CI.out;omega⟩,⟨below_step HBL.out HS.out.b⟩⟩
            · go_wp2_with (first
                |((with_reducible refine gate_dst (N:=8) rfl ?_);refine box_event rfl (N:=8) rfl (cs:=#[.int .i64 0,.int .i64 0,.string (⟨#[]⟩:ByteArray),.slice none 0 0,.string (⟨#[]⟩:ByteArray),.int .i64 0]) (t:=59) ?hr ?_;(case hr=>first|(go_simp;done)|(go_simp;rfl));intro gn hg wa hbox hb;have HBR:=Aside0.mk hb;have BN:=Aside0.mk hbox;have GN:=Aside0.mk (show wr.heap.size≤gn from Nat.le_of_eq hg.symm);clear hg hbox hb)
                |((with_reducible refine gate_store (t:=59) (p:=8) rfl ?_);(refine store_all (w:=wr) rfl 59 _ _ rfl rfl gn #[.int .i64 (rd_T59 l0_0 (i:Nat)).f0,.int .i64 (rd_T59 l0_0 (i:Nat)).f1,.string (rd_T59 l0_0 (i:Nat)).f2,.slice A3 (rd_T59 l0_0 (i:Nat)).f3.length c3,.string (rd_T59 l0_0 (i:Nat)).f4,.int .i64 (rd_T59 l0_0 (i:Nat)).f5] rfl rfl 59 #[.int .i64 0,.int .i64 0,.string (⟨#[]⟩:ByteArray),.slice none 0 0,.string (⟨#[]⟩:ByteArray),.int .i64 0] BN.out (by kernel_rfl) (by kernel_rfl) (by kernel_rfl) HBR.out GN.out ?_;intro ws hs hk hb;have n0_:=Aside0.mk hb;have n1_:=Aside0.mk hs;clear HBR BN hb hk hs;have HBR:=n0_;have BN:=n1_;clear n0_ n1_;clear hx0 hx1 hx2 hx3 hx4 hx5;have hn0:ws.cell? ⟨gn,0,none⟩=some (.int .i64 (rd_T59 l0_0 (i:Nat)).f0):=(blk_cell BN.out 0).trans rfl;have hn1:ws.cell? ⟨gn,1,none⟩=some (.int .i64 (rd_T59 l0_0 (i:Nat)).f1):=(blk_cell BN.out 1).trans rfl;have hn4:ws.cell? ⟨gn,4,none⟩=some (.string (rd_T59 l0_0 (i:Nat)).f4):=(blk_cell BN.out 4).trans rfl)))
              go_roundg (gk - 1)
              case measure=>have:=HK.out;have:=CI.out;omega
              case rel=>exact ⟨i+1,congrArg (Value.int .i64) HWI.out,(by show Value.string _=Value.string (_++_);rw [show pieceR l0_0 a0 a1 b0 b1 i=(⟨#[]⟩:ByteArray) from HP.out.trans (by simp)];exact congrArg Value.string ByteArray.append_empty.symm),⟨by have:=HK.out;have:=CI.out;omega⟩,⟨below_step HBL.out HBR.out⟩⟩
          · have d1:decide (((i:Nat):Int)<(l0_0.length:Int))=false:=decide_eq_false (by omega)
            have e:i=l0_0.length:=by have:=HK.out;omega
            subst e
            go_wp2
            go_ret
            exact ⟨rfl,below_step HB.out HBL.out⟩
      · rw [if_neg sb]
        have HSB:=Aside0.mk (Bool.eq_false_iff.mpr sb)
        clear sb
        go_enter Try.func13,Try.ntmps13
        go_wp2_with (first
          |((with_reducible refine gate_dst (N:=2) rfl ?_);refine box_event rfl (N:=2) rfl (cs:=#[.slice A0_0 l0_0.length c0_0]) (t:=31) ?hr ?_;(case hr=>first|(go_simp;done)|(go_simp;rfl));intro gt hg w3 hbox hb;have HB:=Aside0.mk hb;have BT:=Aside0.mk hbox;clear hg hbox hb)
          |((with_reducible refine gate_dst (N:=3) rfl ?_);refine box_event rfl (N:=3) rfl (cs:=#[.int .i64 a0,.int .i64 a1,.int .i64 b0,.int .i64 b1]) (t:=41) ?hr ?_;(case hr=>first|(go_simp;done)|(go_simp;rfl));intro gr hg w4 hbox hb;have n0_:=Aside0.mk (below_step HB.out hb);have n1_:=Aside0.mk (blk_below BT.out hb);have BR:=Aside0.mk hbox;clear HB BT hg hbox hb;have HB:=n0_;have BT:=n1_;clear n0_ n1_;have hcz:w4.cell? ⟨gt,0,none⟩=some (.slice A0_0 l0_0.length c0_0):=(blk_cell BT.out 0).trans rfl)
          |((with_reducible refine gate_dst (N:=14) rfl ?_);refine goesL_ (some 14) rfl rfl Try.func18 (by kernel_rfl) rfl #[.agg #[.slice A0_0 l0_0.length c0_0]] rfl (by (try simp only [List.map_toArray,List.map_cons,List.map_nil]);first|done|rfl) ?_;refine (impl_TreeOk.calls k _ _ l0_0 true _ (Kd.C_below HR.out HB.out) HC.out A1.out).mono ?_;rintro e w5 ⟨rfl,hb⟩;refine ⟨_,rfl,?_⟩;have n0_:=Aside0.mk (below_step HB.out hb);have n1_:=Aside0.mk (blk_below BT.out hb);have n2_:=Aside0.mk (blk_below BR.out hb);clear HB BT BR hb;have HB:=n0_;have BT:=n1_;have BR:=n2_;clear n0_ n1_ n2_;clear hcz;have hcz5:w5.cell? ⟨gt,0,none⟩=some (.slice A0_0 l0_0.length c0_0):=(blk_cell BT.out 0).trans rfl)
          |((with_reducible refine gate_dst (N:=17) rfl ?_);refine goesL_ (some 17) rfl rfl Try.func19 (by kernel_rfl) rfl #[.agg #[.slice A0_0 l0_0.length c0_0]] rfl (by (try simp only [List.map_toArray,List.map_cons,List.map_nil]);first|done|rfl) ?_;refine (newGarden_calls _ A0_0 c0_0 l0_0 (Kd.C_below HR.out HB.out) HC.out HRT.out).mono ?_;rintro e w7 ⟨wb,ad,va,G,gg,gm,rfl,hwb,hA,hG⟩;refine ⟨_,rfl,?_⟩;have hb:=below_then hwb hwb.size hG.bel;have HG:=Aside0.mk hG;have HWB:=Aside0.mk (show wb.heap.size≤w7.heap.size from hG.bel.size);clear hwb hA hG hcz5;have n0_:=Aside0.mk (below_step HB.out hb);have n1_:=Aside0.mk (blk_below BT.out hb);have n2_:=Aside0.mk (blk_below BR.out hb);clear HB BT BR hb;have HB:=n0_;have BT:=n1_;have BR:=n2_;clear n0_ n1_ n2_;have z0:w7.cell? ⟨gr,0,none⟩=some (.int .i64 a0):=(blk_cell BR.out 0).trans rfl;have z1:w7.cell? ⟨gr,1,none⟩=some (.int .i64 a1):=(blk_cell BR.out 1).trans rfl;have z2:w7.cell? ⟨gr,2,none⟩=some (.int .i64 b0):=(blk_cell BR.out 2).trans rfl;have z3:w7.cell? ⟨gr,3,none⟩=some (.int .i64 b1):=(blk_cell BR.out 3).trans rfl)
          |((with_reducible refine gate_dst (N:=20) rfl ?_);(refine goesL_ (some 20) rfl rfl Try.func25 (by kernel_rfl) rfl #[.pointer (some ⟨gg,0,none⟩),.agg #[.int .i64 a0,.int .i64 a1,.int .i64 b0,.int .i64 b1]] rfl (by (try simp only [List.map_toArray,List.map_cons,List.map_nil]);first|done|rfl) ?_;refine (rangeIn_calls wb _ l0_0 va G gg gm a0 a1 b0 b1 HRT.out HG.out HWB.out).mono ?_;rintro e w8 ⟨rfl,hb⟩;refine ⟨_,rfl,?_⟩;rw [HSB.out];have n0_:=Aside0.mk (HG.out.below HWB.out hb);have n1_:=Aside0.mk (Nat.le_trans HWB.out hb.size);have n2_:=Aside0.mk (below_step HB.out hb);have n3_:=Aside0.mk (blk_below BT.out hb);have n4_:=Aside0.mk (blk_below BR.out hb);clear HG HWB HB BT BR hb;have HG:=n0_;have HWB:=n1_;have HB:=n2_;have BT:=n3_;have BR:=n4_;clear n0_ n1_ n2_ n3_ n4_;clear z0 z1 z2 z3;have hcz8:w8.cell? ⟨gt,0,none⟩=some (.slice A0_0 l0_0.length c0_0):=(blk_cell BT.out 0).trans rfl)))
        go_ret
        exact ⟨rfl,HB.out⟩
    · cases h
  |false=>
    rw [if_neg (by simp)] at h
    obtain rfl:=Option.some.inj h
    have A1:=Aside0.mk h1
    clear h h1
    go_enter Try.func13,Try.ntmps13
    go_wp2_with (first
      |((with_reducible refine gate_dst (N:=2) rfl ?_);refine box_event rfl (N:=2) rfl (cs:=#[.slice A0_0 l0_0.length c0_0]) (t:=31) ?hr ?_;(case hr=>first|(go_simp;done)|(go_simp;rfl));intro gt hg w3 hbox hb;have HB:=Aside0.mk hb;have BT:=Aside0.mk hbox;clear hg hbox hb)
      |((with_reducible refine gate_dst (N:=3) rfl ?_);refine box_event rfl (N:=3) rfl (cs:=#[.int .i64 a0,.int .i64 a1,.int .i64 b0,.int .i64 b1]) (t:=41) ?hr ?_;(case hr=>first|(go_simp;done)|(go_simp;rfl));intro gr hg w4 hbox hb;have n0_:=Aside0.mk (below_step HB.out hb);have n1_:=Aside0.mk (blk_below BT.out hb);have BR:=Aside0.mk hbox;clear HB BT hg hbox hb;have HB:=n0_;have BT:=n1_;clear n0_ n1_;have hcz:w4.cell? ⟨gt,0,none⟩=some (.slice A0_0 l0_0.length c0_0):=(blk_cell BT.out 0).trans rfl)
      |((with_reducible refine gate_dst (N:=14) rfl ?_);refine goesL_ (some 14) rfl rfl Try.func18 (by kernel_rfl) rfl #[.agg #[.slice A0_0 l0_0.length c0_0]] rfl (by (try simp only [List.map_toArray,List.map_cons,List.map_nil]);first|done|rfl) ?_;refine (impl_TreeOk.calls k _ _ l0_0 false _ (Kd.C_below HR.out HB.out) HC.out A1.out).mono ?_;rintro e w5 ⟨rfl,hb⟩;refine ⟨_,rfl,?_⟩;have n0_:=Aside0.mk (below_step HB.out hb);have n1_:=Aside0.mk (blk_below BT.out hb);have n2_:=Aside0.mk (blk_below BR.out hb);clear HB BT BR hb;have HB:=n0_;have BT:=n1_;have BR:=n2_;clear n0_ n1_ n2_;clear hcz;have hcz5:w5.cell? ⟨gt,0,none⟩=some (.slice A0_0 l0_0.length c0_0):=(blk_cell BT.out 0).trans rfl))
    go_ret
    exact ⟨rfl,HB.out⟩
end Go.Proofs.Ytbogfagafdokeaa.QFnExactRangeText
