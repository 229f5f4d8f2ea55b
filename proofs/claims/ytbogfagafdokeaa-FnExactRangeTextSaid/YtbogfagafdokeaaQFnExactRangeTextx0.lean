import Derived.Test.YtbogfagafdokeaaProg
import Derived.Below
import Derived.Deep.Draws
import Derived.Deep.AppendLies
import Derived.Maps.AppendAt
import Derived.OwnWalk
import Derived.Laws.BytesArg
import Derived.Laws.MakeOwn
import Derived.Laws.OwnMore
import Derived.Deep.OwnRows
import Derived.Tactics
import Derived.Lib.ConvBytes
import Derived.Laws.Slices
import Derived.WalkKit
import Derived.KernelRfl
import Derived.RowKit3
import Derived.Deep.LoopGhost
import Derived.Deep.QuietTactic
import Derived.BigQuiet
import Derived.WideLaws
import Derived.Deep.DeepCutAuto
import Derived.Deep.CutBlock
import Derived.Deep.RegionHeld3
import Derived.Laws.Rows
import Derived.Lib.AppendStr
import Derived.ArgAppend
import Derived.Laws.IdiomCopy
import Derived.OrdersHeld
import Derived.Laws.BitsLemmas
import Derived.RowKit
import Derived.Test.YtbogfagafdokeaaVAll
namespace Go.Proofs.Ytbogfagafdokeaa.QFnExactRangeText
open Go.RowKit Go.Proofs.YtbogfagafdokeaaV.PrintWords Go.Proofs.YtbogfagafdokeaaV.PrintLast Go.Proofs.YtbogfagafdokeaaV.PrintMore
attribute [local go_sem] max2_int min2_int max_two min_two max_three min_three max_four min_four
set_option linter.unusedVariables false
set_option linter.unusedSimpArgs false
def errW:Option Int→Value
 |none=>.nilIface
 |some c=>.iface 0 (.int .i64 c)
theorem errW_none:errW none=.nilIface:=rfl
theorem errW_some (c:Int):errW (some c)=.iface 0 (.int .i64 c):=rfl
theorem info3:(Try.prog.info? 3).map (fun i=>(i.zero,i.size,i.bytes))=some (some (.int .i64 0),1,8):=by kernel_rfl
theorem info5:(Try.prog.info? 5).map (fun i=>(i.zero,i.size,i.bytes))=some (some (.int .u8 0),1,1):=by kernel_rfl
theorem info59:(Try.prog.info? 59).map (fun i=>(i.zero,i.size,i.bytes))=some (some (.agg #[(.int .i64 0),(.int .i64 0),(.string ⟨#[]⟩),(.slice none 0 0),(.string ⟨#[]⟩),(.int .i64 0)]),6,80):=by kernel_rfl
theorem info99:(Try.prog.info? 99).map (fun i=>(i.zero,i.size,i.bytes))=some (some (.agg #[(.string ⟨#[]⟩),(.string ⟨#[]⟩)]),2,32):=by kernel_rfl
/-! #### struct type 98 -/
structure S98 where
  f0:ByteArray
  f1:ByteArray
def z98:S98:=⟨(⟨#[]⟩:ByteArray),(⟨#[]⟩:ByteArray)⟩
def k98:Kd S98:=Kd.iso (Kd.pair Kd.string Kd.string) (fun x:S98=>(x.f0,x.f1))
theorem k98_open {w:World} {x:S98} {cs:List Value} (h:k98.K w x cs):cs=[.string x.f0,.string x.f1]:=by
 obtain ⟨_,_,rfl,rfl,rfl⟩:=h
 exact rfl
theorem k98_openM {w:World} {base:Nat} {ok:Nat→Prop} {x:S98} {cs:List Value} (h:k98.M w base ok x cs):cs=[.string x.f0,.string x.f1]:=by
 obtain ⟨_,_,rfl,rfl,rfl⟩:=h
 exact rfl
theorem k98_mk (w:World) (x:S98) :k98.K w x [.string x.f0,.string x.f1]:=⟨[.string x.f0],[.string x.f1],rfl,rfl,rfl⟩
theorem k98_mkM (w:World) (base:Nat) (ok:Nat→Prop) (x:S98) :k98.M w base ok x [.string x.f0,.string x.f1]:=⟨[.string x.f0],[.string x.f1],rfl,rfl,rfl⟩
def rd_T98 (xs:List S98) (i:Int):S98:=xs.getD i.toNat z98
theorem at_T98 {w:World} {A:Option Addr} {n:Nat} {xs:List S98} (h:Kd.C k98 w A n xs) (i:Int) (h0:0≤i) (h1:i<n):∃ ad,A=some ad∧w.cell? (ad.add (i.toNat*2))=some (.string (rd_T98 xs i).f0)∧w.cell? ⟨(ad.add (i.toNat*2)).block,(ad.add (i.toNat*2)).off+1,none⟩=some (.string (rd_T98 xs i).f1):=by
 obtain ⟨ad,c,e,_,hK,hc0⟩:=Kd.C_get h z98 i h0 h1
 have hc:∀ j u,c[j]?=some u→w.cell? (ad.add (i.toNat*2+j))=some u:=hc0
 obtain rfl:=k98_open hK
 exact ⟨ad,e,hc 0 _ rfl,by rw [← add_field _ _ 1 (by omega)];exact hc 1 _ rfl⟩
def rd_L3 (xs:List (List S98)) (i:Int):(List S98):=xs.getD i.toNat ([]:List S98)
theorem at_L3 {w:World} {A:Option Addr} {n:Nat} {xs:List (List S98)} (h:Kd.C (Kd.slice 98 k98) w A n xs) (i:Int) (h0:0≤i) (h1:i<n):∃ ad A0 c0,A=some ad∧w.cell? (ad.add i.toNat)=some (.slice A0 (rd_L3 xs i).length c0)∧(rd_L3 xs i).length≤c0∧k98.C w A0 (rd_L3 xs i).length (rd_L3 xs i):=by
 obtain ⟨ad,c,e,_,hK,hc0⟩:=Kd.C_get h ([]:List S98) i h0 h1
 have hc:∀ j u,c[j]?=some u→w.cell? (ad.add (i.toNat*1+j))=some u:=hc0
 obtain ⟨A0,c0,rfl,l0,g0⟩:=hK
 exact ⟨ad,A0,c0,e,by have hq:=hc 0 _ rfl;rwa [Nat.mul_one,Nat.add_zero] at hq,l0,g0⟩
/-! #### struct type 64 -/
structure S64 where
  f0:Int
  f1:Int
  f2:ByteArray
  f3:(List S98)
  f4:ByteArray
  f5:Int
def z64:S64:=⟨(0:Int),(0:Int),(⟨#[]⟩:ByteArray),([]:List S98),(⟨#[]⟩:ByteArray),(0:Int)⟩
def k64:Kd S64:=Kd.iso (Kd.pair (Kd.int .i64) (Kd.pair (Kd.int .i64) (Kd.pair Kd.string (Kd.pair (Kd.slice 98 k98) (Kd.pair Kd.string (Kd.int .i64)))))) (fun x:S64=>(x.f0,x.f1,x.f2,x.f3,x.f4,x.f5))
theorem k64_open {w:World} {x:S64} {cs:List Value} (h:k64.K w x cs):∃ A3 c3,cs=[.int .i64 x.f0,.int .i64 x.f1,.string x.f2,.slice A3 x.f3.length c3,.string x.f4,.int .i64 x.f5]∧x.f3.length≤c3∧k98.C w A3 x.f3.length x.f3:=by
 obtain ⟨_,_,rfl,rfl,⟨_,_,rfl,rfl,⟨_,_,rfl,rfl,⟨_,_,rfl,⟨A3,c3,rfl,l3,g3⟩,⟨_,_,rfl,rfl,rfl⟩⟩⟩⟩⟩:=h
 exact ⟨A3,c3,rfl,l3,g3⟩
theorem k64_openM {w:World} {base:Nat} {ok:Nat→Prop} {x:S64} {cs:List Value} (h:k64.M w base ok x cs):∃ v3,cs=[.int .i64 x.f0,.int .i64 x.f1,.string x.f2,v3,.string x.f4,.int .i64 x.f5]∧k98.R 98 w base ok v3 x.f3:=by
 obtain ⟨_,_,rfl,rfl,⟨_,_,rfl,rfl,⟨_,_,rfl,rfl,⟨_,_,rfl,⟨v3,rfl,g3⟩,⟨_,_,rfl,rfl,rfl⟩⟩⟩⟩⟩:=h
 exact ⟨v3,rfl,g3⟩
theorem k64_mk (w:World) (x:S64) {A3:Option Addr} {c3:Nat} (l3:x.f3.length≤c3) (g3:k98.C w A3 x.f3.length x.f3):k64.K w x [.int .i64 x.f0,.int .i64 x.f1,.string x.f2,.slice A3 x.f3.length c3,.string x.f4,.int .i64 x.f5]:=⟨[.int .i64 x.f0],[.int .i64 x.f1,.string x.f2,.slice A3 x.f3.length c3,.string x.f4,.int .i64 x.f5],rfl,rfl,⟨[.int .i64 x.f1],[.string x.f2,.slice A3 x.f3.length c3,.string x.f4,.int .i64 x.f5],rfl,rfl,⟨[.string x.f2],[.slice A3 x.f3.length c3,.string x.f4,.int .i64 x.f5],rfl,rfl,⟨[.slice A3 x.f3.length c3],[.string x.f4,.int .i64 x.f5],rfl,⟨A3,c3,rfl,l3,g3⟩,⟨[.string x.f4],[.int .i64 x.f5],rfl,rfl,rfl⟩⟩⟩⟩⟩
theorem k64_mkM (w:World) (base:Nat) (ok:Nat→Prop) (x:S64) {v3:Value} (g3:k98.R 98 w base ok v3 x.f3):k64.M w base ok x [.int .i64 x.f0,.int .i64 x.f1,.string x.f2,v3,.string x.f4,.int .i64 x.f5]:=⟨[.int .i64 x.f0],[.int .i64 x.f1,.string x.f2,v3,.string x.f4,.int .i64 x.f5],rfl,rfl,⟨[.int .i64 x.f1],[.string x.f2,v3,.string x.f4,.int .i64 x.f5],rfl,rfl,⟨[.string x.f2],[v3,.string x.f4,.int .i64 x.f5],rfl,rfl,⟨[v3],[.string x.f4,.int .i64 x.f5],rfl,⟨v3,rfl,g3⟩,⟨[.string x.f4],[.int .i64 x.f5],rfl,rfl,rfl⟩⟩⟩⟩⟩
def rd_T64 (xs:List S64) (i:Int):S64:=xs.getD i.toNat z64
theorem at_T64 {w:World} {A:Option Addr} {n:Nat} {xs:List S64} (h:Kd.C k64 w A n xs) (i:Int) (h0:0≤i) (h1:i<n):∃ ad A3 c3,A=some ad∧w.cell? (ad.add (i.toNat*6))=some (.int .i64 (rd_T64 xs i).f0)∧w.cell? ⟨(ad.add (i.toNat*6)).block,(ad.add (i.toNat*6)).off+1,none⟩=some (.int .i64 (rd_T64 xs i).f1)∧w.cell? ⟨(ad.add (i.toNat*6)).block,(ad.add (i.toNat*6)).off+2,none⟩=some (.string (rd_T64 xs i).f2)∧w.cell? ⟨(ad.add (i.toNat*6)).block,(ad.add (i.toNat*6)).off+3,none⟩=some (.slice A3 (rd_T64 xs i).f3.length c3)∧w.cell? ⟨(ad.add (i.toNat*6)).block,(ad.add (i.toNat*6)).off+4,none⟩=some (.string (rd_T64 xs i).f4)∧w.cell? ⟨(ad.add (i.toNat*6)).block,(ad.add (i.toNat*6)).off+5,none⟩=some (.int .i64 (rd_T64 xs i).f5)∧(rd_T64 xs i).f3.length≤c3∧k98.C w A3 (rd_T64 xs i).f3.length (rd_T64 xs i).f3:=by
 obtain ⟨ad,c,e,_,hK,hc0⟩:=Kd.C_get h z64 i h0 h1
 have hc:∀ j u,c[j]?=some u→w.cell? (ad.add (i.toNat*6+j))=some u:=hc0
 obtain ⟨A3,c3,rfl,l3,g3⟩:=k64_open hK
 exact ⟨ad,A3,c3,e,hc 0 _ rfl,by rw [← add_field _ _ 1 (by omega)];exact hc 1 _ rfl,by rw [← add_field _ _ 2 (by omega)];exact hc 2 _ rfl,by rw [← add_field _ _ 3 (by omega)];exact hc 3 _ rfl,by rw [← add_field _ _ 4 (by omega)];exact hc 4 _ rfl,by rw [← add_field _ _ 5 (by omega)];exact hc 5 _ rfl,l3,g3⟩
/-! #### struct type 99 -/
structure S99 where
  f0:ByteArray
  f1:ByteArray
def z99:S99:=⟨(⟨#[]⟩:ByteArray),(⟨#[]⟩:ByteArray)⟩
def k99:Kd S99:=Kd.iso (Kd.pair Kd.string Kd.string) (fun x:S99=>(x.f0,x.f1))
theorem k99_open {w:World} {x:S99} {cs:List Value} (h:k99.K w x cs):cs=[.string x.f0,.string x.f1]:=by
 obtain ⟨_,_,rfl,rfl,rfl⟩:=h
 exact rfl
theorem k99_openM {w:World} {base:Nat} {ok:Nat→Prop} {x:S99} {cs:List Value} (h:k99.M w base ok x cs):cs=[.string x.f0,.string x.f1]:=by
 obtain ⟨_,_,rfl,rfl,rfl⟩:=h
 exact rfl
theorem k99_mk (w:World) (x:S99) :k99.K w x [.string x.f0,.string x.f1]:=⟨[.string x.f0],[.string x.f1],rfl,rfl,rfl⟩
theorem k99_mkM (w:World) (base:Nat) (ok:Nat→Prop) (x:S99) :k99.M w base ok x [.string x.f0,.string x.f1]:=⟨[.string x.f0],[.string x.f1],rfl,rfl,rfl⟩
def rd_T99 (xs:List S99) (i:Int):S99:=xs.getD i.toNat z99
theorem at_T99 {w:World} {A:Option Addr} {n:Nat} {xs:List S99} (h:Kd.C k99 w A n xs) (i:Int) (h0:0≤i) (h1:i<n):∃ ad,A=some ad∧w.cell? (ad.add (i.toNat*2))=some (.string (rd_T99 xs i).f0)∧w.cell? ⟨(ad.add (i.toNat*2)).block,(ad.add (i.toNat*2)).off+1,none⟩=some (.string (rd_T99 xs i).f1):=by
 obtain ⟨ad,c,e,_,hK,hc0⟩:=Kd.C_get h z99 i h0 h1
 have hc:∀ j u,c[j]?=some u→w.cell? (ad.add (i.toNat*2+j))=some u:=hc0
 obtain rfl:=k99_open hK
 exact ⟨ad,e,hc 0 _ rfl,by rw [← add_field _ _ 1 (by omega)];exact hc 1 _ rfl⟩
def rd_L6 (xs:List (List S99)) (i:Int):(List S99):=xs.getD i.toNat ([]:List S99)
theorem at_L6 {w:World} {A:Option Addr} {n:Nat} {xs:List (List S99)} (h:Kd.C (Kd.slice 99 k99) w A n xs) (i:Int) (h0:0≤i) (h1:i<n):∃ ad A0 c0,A=some ad∧w.cell? (ad.add i.toNat)=some (.slice A0 (rd_L6 xs i).length c0)∧(rd_L6 xs i).length≤c0∧k99.C w A0 (rd_L6 xs i).length (rd_L6 xs i):=by
 obtain ⟨ad,c,e,_,hK,hc0⟩:=Kd.C_get h ([]:List S99) i h0 h1
 have hc:∀ j u,c[j]?=some u→w.cell? (ad.add (i.toNat*1+j))=some u:=hc0
 obtain ⟨A0,c0,rfl,l0,g0⟩:=hK
 exact ⟨ad,A0,c0,e,by have hq:=hc 0 _ rfl;rwa [Nat.mul_one,Nat.add_zero] at hq,l0,g0⟩
/-! #### struct type 59 -/
structure S59 where
  f0:Int
  f1:Int
  f2:ByteArray
  f3:(List S99)
  f4:ByteArray
  f5:Int
def z59:S59:=⟨(0:Int),(0:Int),(⟨#[]⟩:ByteArray),([]:List S99),(⟨#[]⟩:ByteArray),(0:Int)⟩
def k59:Kd S59:=Kd.iso (Kd.pair (Kd.int .i64) (Kd.pair (Kd.int .i64) (Kd.pair Kd.string (Kd.pair (Kd.slice 99 k99) (Kd.pair Kd.string (Kd.int .i64)))))) (fun x:S59=>(x.f0,x.f1,x.f2,x.f3,x.f4,x.f5))
theorem k59_open {w:World} {x:S59} {cs:List Value} (h:k59.K w x cs):∃ A3 c3,cs=[.int .i64 x.f0,.int .i64 x.f1,.string x.f2,.slice A3 x.f3.length c3,.string x.f4,.int .i64 x.f5]∧x.f3.length≤c3∧k99.C w A3 x.f3.length x.f3:=by
 obtain ⟨_,_,rfl,rfl,⟨_,_,rfl,rfl,⟨_,_,rfl,rfl,⟨_,_,rfl,⟨A3,c3,rfl,l3,g3⟩,⟨_,_,rfl,rfl,rfl⟩⟩⟩⟩⟩:=h
 exact ⟨A3,c3,rfl,l3,g3⟩
theorem k59_openM {w:World} {base:Nat} {ok:Nat→Prop} {x:S59} {cs:List Value} (h:k59.M w base ok x cs):∃ v3,cs=[.int .i64 x.f0,.int .i64 x.f1,.string x.f2,v3,.string x.f4,.int .i64 x.f5]∧k99.R 99 w base ok v3 x.f3:=by
 obtain ⟨_,_,rfl,rfl,⟨_,_,rfl,rfl,⟨_,_,rfl,rfl,⟨_,_,rfl,⟨v3,rfl,g3⟩,⟨_,_,rfl,rfl,rfl⟩⟩⟩⟩⟩:=h
 exact ⟨v3,rfl,g3⟩
theorem k59_mk (w:World) (x:S59) {A3:Option Addr} {c3:Nat} (l3:x.f3.length≤c3) (g3:k99.C w A3 x.f3.length x.f3):k59.K w x [.int .i64 x.f0,.int .i64 x.f1,.string x.f2,.slice A3 x.f3.length c3,.string x.f4,.int .i64 x.f5]:=⟨[.int .i64 x.f0],[.int .i64 x.f1,.string x.f2,.slice A3 x.f3.length c3,.string x.f4,.int .i64 x.f5],rfl,rfl,⟨[.int .i64 x.f1],[.string x.f2,.slice A3 x.f3.length c3,.string x.f4,.int .i64 x.f5],rfl,rfl,⟨[.string x.f2],[.slice A3 x.f3.length c3,.string x.f4,.int .i64 x.f5],rfl,rfl,⟨[.slice A3 x.f3.length c3],[.string x.f4,.int .i64 x.f5],rfl,⟨A3,c3,rfl,l3,g3⟩,⟨[.string x.f4],[.int .i64 x.f5],rfl,rfl,rfl⟩⟩⟩⟩⟩
theorem k59_mkM (w:World) (base:Nat) (ok:Nat→Prop) (x:S59) {v3:Value} (g3:k99.R 99 w base ok v3 x.f3):k59.M w base ok x [.int .i64 x.f0,.int .i64 x.f1,.string x.f2,v3,.string x.f4,.int .i64 x.f5]:=⟨[.int .i64 x.f0],[.int .i64 x.f1,.string x.f2,v3,.string x.f4,.int .i64 x.f5],rfl,rfl,⟨[.int .i64 x.f1],[.string x.f2,v3,.string x.f4,.int .i64 x.f5],rfl,rfl,⟨[.string x.f2],[v3,.string x.f4,.int .i64 x.f5],rfl,rfl,⟨[v3],[.string x.f4,.int .i64 x.f5],rfl,⟨v3,rfl,g3⟩,⟨[.string x.f4],[.int .i64 x.f5],rfl,rfl,rfl⟩⟩⟩⟩⟩
def rd_T59 (xs:List S59) (i:Int):S59:=xs.getD i.toNat z59
theorem at_T59 {w:World} {A:Option Addr} {n:Nat} {xs:List S59} (h:Kd.C k59 w A n xs) (i:Int) (h0:0≤i) (h1:i<n):∃ ad A3 c3,A=some ad∧w.cell? (ad.add (i.toNat*6))=some (.int .i64 (rd_T59 xs i).f0)∧w.cell? ⟨(ad.add (i.toNat*6)).block,(ad.add (i.toNat*6)).off+1,none⟩=some (.int .i64 (rd_T59 xs i).f1)∧w.cell? ⟨(ad.add (i.toNat*6)).block,(ad.add (i.toNat*6)).off+2,none⟩=some (.string (rd_T59 xs i).f2)∧w.cell? ⟨(ad.add (i.toNat*6)).block,(ad.add (i.toNat*6)).off+3,none⟩=some (.slice A3 (rd_T59 xs i).f3.length c3)∧w.cell? ⟨(ad.add (i.toNat*6)).block,(ad.add (i.toNat*6)).off+4,none⟩=some (.string (rd_T59 xs i).f4)∧w.cell? ⟨(ad.add (i.toNat*6)).block,(ad.add (i.toNat*6)).off+5,none⟩=some (.int .i64 (rd_T59 xs i).f5)∧(rd_T59 xs i).f3.length≤c3∧k99.C w A3 (rd_T59 xs i).f3.length (rd_T59 xs i).f3:=by
 obtain ⟨ad,c,e,_,hK,hc0⟩:=Kd.C_get h z59 i h0 h1
 have hc:∀ j u,c[j]?=some u→w.cell? (ad.add (i.toNat*6+j))=some u:=hc0
 obtain ⟨A3,c3,rfl,l3,g3⟩:=k59_open hK
 exact ⟨ad,A3,c3,e,hc 0 _ rfl,by rw [← add_field _ _ 1 (by omega)];exact hc 1 _ rfl,by rw [← add_field _ _ 2 (by omega)];exact hc 2 _ rfl,by rw [← add_field _ _ 3 (by omega)];exact hc 3 _ rfl,by rw [← add_field _ _ 4 (by omega)];exact hc 4 _ rfl,by rw [← add_field _ _ 5 (by omega)];exact hc 5 _ rfl,l3,g3⟩
end Go.Proofs.Ytbogfagafdokeaa.QFnExactRangeText
