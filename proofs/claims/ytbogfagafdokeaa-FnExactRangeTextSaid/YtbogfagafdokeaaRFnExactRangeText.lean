import Derived.Test.YtbogfagafdokeaaRows
import Derived.Test.YtbogfagafdokeaaQFnExactRangeTextx15
import Derived.Test.YtbogfagafdokeaaQFnExactRangeTextPure
import Derived.Test.YtbogfagafdokeaaOpen
import Derived.WalkKit
import Derived.ProofKit
import Derived.OpenShut
import Derived.ShutString
import Derived.ChangeOld
import Derived.Below
import Derived.SizedLaws
import Derived.Carry
namespace Go.Proofs.Ytbogfagafdokeaa.fnExactRangeText
open Go.ChangeShapes Go.WideShapes Go.ChangeAt Go.RowKit Go.Proofs.Ytbogfagafdokeaa.Opn Go.Proofs.Ytbogfagafdokeaa.QFnExactRangeText Go.Proofs.YtbogfagafdokeaaV.PrintWords Go.Proofs.YtbogfagafdokeaaV.PrintLast
open Go.ChangeMaps (open_string shut_string)
set_option linter.unusedVariables false
set_option linter.unusedSimpArgs false
theorem own:ownKnob Try.prog.godebug=none:=by kernel_rfl
theorem laidOut:laidOutB Try.prog=true:=by kernel_rfl
abbrev wf3:=fun (n:Int)=>(Lit.int .i64 n).wf=true
theorem o3:Opens Try.prog 3 (Kd.int .i64) wf3:=opens_int Try.underlying3 (by kernel_rfl)
abbrev wf9:=fun (s:ByteArray)=>s.size≤maxLen
theorem o9:Opens Try.prog 9 Kd.string wf9:=opens_string Try.underlying9 (by kernel_rfl)
abbrev wf98:=fun (x:S98)=>wf9 x.f0∧wf9 x.f1
theorem o98:Opens Try.prog 98 k98 wf98:=opens_iso (opens_struct Try.underlying98 (by kernel_rfl) (opensF_cons rfl o9 (opensF_one rfl o9))) (fun x:S98=>(x.f0,x.f1)) (fun a=>(⟨a.1,a.2⟩:S98)) (fun _=>rfl)
abbrev wf62:=fun (xs:List S98)=>xs.length≤maxLen∧∀ x ∈ xs,wf98 x
theorem o62:Opens Try.prog 62 (Kd.slice 98 k98) wf62:=opens_slice 98 Try.underlying62 (by kernel_rfl) o98
abbrev wf64:=fun (x:S64)=>wf3 x.f0∧wf3 x.f1∧wf9 x.f2∧wf62 x.f3∧wf9 x.f4∧wf3 x.f5
theorem o64:Opens Try.prog 64 k64 wf64:=opens_iso (opens_struct Try.underlying64 (by kernel_rfl) (opensF_cons rfl o3 (opensF_cons rfl o3 (opensF_cons rfl o9 (opensF_cons rfl o62 (opensF_cons rfl o9 (opensF_one rfl o3))))))) (fun x:S64=>(x.f0,x.f1,x.f2,x.f3,x.f4,x.f5)) (fun a=>(⟨a.1,a.2.1,a.2.2.1,a.2.2.2.1,a.2.2.2.2.1,a.2.2.2.2.2⟩:S64)) (fun _=>rfl)
abbrev wf22:=fun (xs:List S64)=>xs.length≤maxLen∧∀ x ∈ xs,wf64 x
theorem o22:Opens Try.prog 22 (Kd.slice 64 k64) wf22:=opens_slice 64 Try.underlying22 (by kernel_rfl) o64
abbrev wf24:=fun (x:(List S64))=>wf22 (x)
theorem o24:Opens Try.prog 24 (Kd.slice 64 k64) wf24:=opens_struct Try.underlying24 (by kernel_rfl) (opensF_one rfl o22)
abbrev wf26:=fun (x:Int×Int)=>wf3 (x.1)∧wf3 (x.2)
theorem o26:Opens Try.prog 26 (Kd.pair (Kd.int .i64) (Kd.int .i64)) wf26:=opens_struct Try.underlying26 (by kernel_rfl) (opensF_cons rfl o3 (opensF_one rfl o3))
abbrev wf38:=fun (x:(Int×Int)×(Int×Int))=>wf26 (x.1)∧wf26 (x.2)
theorem o38:Opens Try.prog 38 (Kd.pair (Kd.pair (Kd.int .i64) (Kd.int .i64)) (Kd.pair (Kd.int .i64) (Kd.int .i64))) wf38:=opens_struct Try.underlying38 (by kernel_rfl) (opensF_cons rfl o26 (opensF_one rfl o26))
theorem c24 {w:World} {x:((List S64))} {cs:List Value} (h:Kd.K (Kd.slice 64 k64) w x cs):∃ (A0:Option Addr) (c0:Nat),cs=[.slice A0 (x).length c0]∧(x).length≤c0∧Kd.C k64 w A0 (x).length (x):=by
 obtain ⟨A0,c0,rfl,l0,r0⟩:=h
 exact ⟨A0,c0,rfl,l0,r0⟩
theorem c38 {w:World} {x:((Int×Int)×(Int×Int))} {cs:List Value} (h:Kd.K (Kd.pair (Kd.pair (Kd.int .i64) (Kd.int .i64)) (Kd.pair (Kd.int .i64) (Kd.int .i64))) w x cs):cs=[.int .i64 x.1.1,.int .i64 x.1.2,.int .i64 x.2.1,.int .i64 x.2.2]:=by
 obtain ⟨_,_,rfl,⟨_,_,rfl,rfl,rfl⟩,⟨_,_,rfl,rfl,rfl⟩⟩:=h
 exact rfl
set_option maxRecDepth 100000 in
theorem lifted (os:Os) (started:os.Started) (H:Type) (enc:TypeId×Value→H) :
  ReturnsInHanded {} Try.checked os 4 .any (Rows.fnExactRangeTextSpec.pre6 enc Try.prog Try.f4 Rows.fnExactRangeTextRow.domain false) (Rows.fnExactRangeTextSpec.post enc Try.prog Try.f4 false true false false):=by
 refine returnsInHanded_of_change_sized (C:=Try.checked) own started (by kernel_rfl) Try.func4
  (ChangeSpec.witness6 (enc:=enc) (C:=Try.checked) false ⟨#[],#[.agg #[.slice none 0 0],.agg #[.int .i64 0,.int .i64 0,.int .i64 0,.int .i64 0]],[]⟩ 8 (by kernel_rfl) (by kernel_rfl) (by kernel_rfl) (by kernel_rfl)) ?_
 intro W base args ds gs before hval0 hW hcnd hsz0 _
 have hval:∀ (j:Nat) t v,Try.f4.params[j]?=some t→args[j]?=some v→Value.okWide Try.prog W .any base t v:=hval0
 have hW':=hW
 obtain ⟨p,q,hA0,hV,rfl,hfz,hnd⟩:=hW
 have hA:DataW.TrodAll enc Try.prog W 0 (fun _=>true) true Try.f4.params.toList args.toList ds p:=hA0
 rw [Try.params4] at hA hval
 obtain ⟨v0,vs0,d0,ds0,p0,q0,hargs,rfl,rfl,h0,r0⟩:=trodAll_cons hA
 obtain ⟨v1,vs1,d1,ds1,p1,q1,rfl,rfl,rfl,h1,r1⟩:=trodAll_cons r0
 obtain ⟨rfl,rfl,rfl⟩:=trodAll_nil r1
 obtain rfl:args=#[v0,v1]:=by cases args;simp_all
 obtain ⟨rfl,rfl⟩:=trodVars_none hV
 have k0:=h0
 have lt0:∀ x ∈ p0,x.block<W.heap.size:=by obtain ⟨m,hm⟩:=k0;exact DataW.trod_lt m _ _ _ hm
 obtain ⟨fu0,hf0⟩:=h0
 obtain ⟨x0,hK0,hw0⟩:=o24.op hf0
 obtain ⟨cs0,rfl,hs0⟩:=okWide_struct Try.underlying24 (hval 0 24 v0 rfl rfl)
 obtain ⟨A0_0,c0_0,e0,l0_0,r0_0⟩:=c24 hK0
 have e0':cs0=#[.slice A0_0 (x0).length c0_0]:=Array.toList_inj.mp e0
 subst e0'
 have k1:=h1
 have lt1:∀ x ∈ p1,x.block<W.heap.size:=by obtain ⟨m,hm⟩:=k1;exact DataW.trod_lt m _ _ _ hm
 obtain ⟨fu1,hf1⟩:=h1
 obtain ⟨x1,hK1,hw1⟩:=o38.op hf1
 obtain ⟨cs1,rfl,hs1⟩:=okWide_struct Try.underlying38 (hval 1 38 v1 rfl rfl)
 have e1:=c38 hK1
 have e1':cs1=#[.int .i64 x1.1.1,.int .i64 x1.1.2,.int .i64 x1.2.1,.int .i64 x1.2.2]:=Array.toList_inj.mp e1
 subst e1'
 obtain ⟨k,hp⟩:=FnExactRangeText_pure x0 x1 hw0 hw1
 refine (laws_FnExactRangeText.calls k _ _ (x0) (x1.1.1) (x1.1.2) (x1.2.1) (x1.2.2) true W r0_0 l0_0 hp).mono fun e W' ⟨he,bel⟩=>?_
 subst he
 exact ⟨_,rfl,_,_,_,[],_,[],hW',trodAll_mk1 (shut_bool Try.underlying4 _),(trodAll_cons_mk (Below.trod laidOut (by kernel_rfl) (of_decide_eq_true (by kernel_rfl)) k0 bel lt0) (trodAll_cons_mk (Below.trod laidOut (by kernel_rfl) (of_decide_eq_true (by kernel_rfl)) k1 bel lt1) trodAll_mk0)),rfl,bel.frame _,fun h=>by cases h⟩
set_option maxRecDepth 100000 in
theorem named:Try.pinned.checked.prog.funcNamed Rows.fnExactRangeTextRow.func=some 4:=by kernel_rfl
set_option maxRecDepth 100000 in
set_option maxHeartbeats 8000000 in
theorem closed:joinedFacts Try.pinned.checked.prog 4 Try.f4 Rows.fnExactRangeTextSpec Rows.fnExactRangeTextRow=true:=by
 simp only [joinedFacts,Bool.and_eq_true]
 repeat' apply And.intro
 all_goals (as_aux_lemma=>kernel_rfl)
theorem instd:Try.f4.isInstance Try.pinned.checked.prog Rows.fnExactRangeTextRow.origin Rows.fnExactRangeTextRow.targs:=of_decide_eq_true (by kernel_rfl)
theorem wrapped:Try.f4.isWrapper Try.pinned.checked.prog Rows.fnExactRangeTextRow.wrapper Rows.fnExactRangeTextRow.mainSum:=by unfold Func.isWrapper;first|(rw [if_pos (by decide +kernel)];kernel_rfl)|(rw [if_neg (by decide +kernel)];exact ⟨rfl,rfl⟩)
theorem over:Rows.fnExactRangeTextRow.holds Try.pinned (OpenSpec.ofChange Rows.fnExactRangeTextSpec):=
 OpenClaim.holds_of_wide 4 Try.f4 rfl rfl rfl rfl rfl rfl rfl ⟨rfl,rfl,rfl,rfl,rfl⟩ rfl rfl rfl rfl rfl named Try.func4 closed instd wrapped
  (fun os started H enc _=>lifted os started H enc)
end Go.Proofs.Ytbogfagafdokeaa.fnExactRangeText
namespace Go.Proofs.Ytbogfagafdokeaa
theorem fnExactRangeText_holds:Rows.FnExactRangeTextSaid:=fnExactRangeText.over
end Go.Proofs.Ytbogfagafdokeaa
