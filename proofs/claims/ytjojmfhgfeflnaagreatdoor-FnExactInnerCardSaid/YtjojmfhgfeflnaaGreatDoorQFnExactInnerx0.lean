/- Written by a program (wip/tools/own_print.py) out of the walk that the kit's printer made; turned where it fell. -/
-- PRINTED by print.py (a twelfth state) out of the translation. Not trusted: Lean checks it.
import Derived.Test.YtjojmfhgfeflnaaGreatDoorProg
import Derived.Below
import Derived.Deep.Draws
import Derived.Deep.AppendLies
import Derived.Maps.AppendAt
import Derived.OwnWalk
import Derived.Laws.BytesArg
import Derived.Laws.MakeOwn
import Derived.Laws.OwnMore
import Derived.Deep.OwnRows
import Derived.Tactics
import Derived.Lib.ConvBytes
import Derived.Laws.Slices
import Derived.WalkKit
import Derived.KernelRfl
import Derived.RowKit3
import Derived.Deep.LoopGhost
import Derived.Deep.QuietTactic
import Derived.BigQuiet
import Derived.WideLaws
import Derived.Deep.DeepCutAuto
import Derived.Deep.CutBlock
import Derived.Deep.RegionHeld3
import Derived.Laws.Rows
import Derived.Lib.AppendStr
import Derived.ArgAppend
import Derived.Laws.IdiomCopy
import Derived.OrdersHeld
import Derived.Laws.BitsLemmas
import Derived.RowKit
import Derived.Test.YtjojmfhgfeflnaaGreatDoorVAll
namespace Go.Proofs.YtjojmfhgfeflnaaGreatDoor.QFnExactInner
open Go.RowKit Go.Proofs.YtjojmfhgfeflnaaGreatDoorV.PrintWords Go.Proofs.YtjojmfhgfeflnaaGreatDoorV.PrintLast Go.Proofs.YtjojmfhgfeflnaaGreatDoorV.PrintMore
attribute [local go_sem] max2_int min2_int max_two min_two max_three min_three max_four min_four   -- for this text's walks alone
set_option linter.unusedVariables false
set_option linter.unusedSimpArgs false
def errW:Option Int→Value
 |none=>.nilIface
 |some c=>.iface 0 (.int .i64 c)
theorem errW_none:errW none=.nilIface:=rfl
theorem errW_some (c:Int):errW (some c)=.iface 0 (.int .i64 c):=rfl
theorem info3:(Tryz.prog.info? 3).map (fun i=>(i.zero,i.size,i.bytes))=some (some (.int .i64 0),1,8):=by kernel_rfl
theorem info5:(Tryz.prog.info? 5).map (fun i=>(i.zero,i.size,i.bytes))=some (some (.int .u8 0),1,1):=by kernel_rfl
theorem info57:(Tryz.prog.info? 57).map (fun i=>(i.zero,i.size,i.bytes))=some (some (.agg #[(.int .i64 0),(.int .i64 0),(.string ⟨#[]⟩),(.slice none 0 0),(.string ⟨#[]⟩),(.int .i64 0)]),6,80):=by kernel_rfl
theorem info77:(Tryz.prog.info? 77).map (fun i=>(i.zero,i.size,i.bytes))=some (some (.agg #[(.string ⟨#[]⟩),(.string ⟨#[]⟩)]),2,32):=by kernel_rfl
/-! #### struct type 91 -/
structure S91 where
 f0:ByteArray
 f1:ByteArray
def z91:S91:=⟨(⟨#[]⟩:ByteArray),(⟨#[]⟩:ByteArray)⟩
def k91:Kd S91:=Kd.iso (Kd.pair Kd.string Kd.string) (fun x:S91=>(x.f0,x.f1))
theorem k91_open {w:World} {x:S91} {cs:List Value} (h:k91.K w x cs):cs=[.string x.f0,.string x.f1]:=by
 obtain ⟨_,_,rfl,rfl,rfl⟩:=h
 exact rfl
theorem k91_openM {w:World} {base:Nat} {ok:Nat→Prop} {x:S91} {cs:List Value} (h:k91.M w base ok x cs):cs=[.string x.f0,.string x.f1]:=by
 obtain ⟨_,_,rfl,rfl,rfl⟩:=h
 exact rfl
theorem k91_mk (w:World) (x:S91) :k91.K w x [.string x.f0,.string x.f1]:=⟨[.string x.f0],[.string x.f1],rfl,rfl,rfl⟩
theorem k91_mkM (w:World) (base:Nat) (ok:Nat→Prop) (x:S91) :k91.M w base ok x [.string x.f0,.string x.f1]:=⟨[.string x.f0],[.string x.f1],rfl,rfl,rfl⟩
def rd_T91 (xs:List S91) (i:Int):S91:=xs.getD i.toNat z91
theorem at_T91 {w:World} {A:Option Addr} {n:Nat} {xs:List S91} (h:Kd.C k91 w A n xs) (i:Int) (h0:0≤i) (h1:i<n):∃ ad,A=some ad∧w.cell? (ad.add (i.toNat*2))=some (.string (rd_T91 xs i).f0)∧w.cell? ⟨(ad.add (i.toNat*2)).block,(ad.add (i.toNat*2)).off+1,none⟩=some (.string (rd_T91 xs i).f1):=by
 obtain ⟨ad,c,e,_,hK,hc0⟩:=Kd.C_get h z91 i h0 h1
 have hc:∀ j u,c[j]?=some u→w.cell? (ad.add (i.toNat*2+j))=some u:=hc0
 obtain rfl:=k91_open hK
 exact ⟨ad,e,hc 0 _ rfl,by rw [← add_field _ _ 1 (by omega)];exact hc 1 _ rfl⟩
def rd_L3 (xs:List (List S91)) (i:Int):(List S91):=xs.getD i.toNat ([]:List S91)
theorem at_L3 {w:World} {A:Option Addr} {n:Nat} {xs:List (List S91)} (h:Kd.C (Kd.slice 91 k91) w A n xs) (i:Int) (h0:0≤i) (h1:i<n):∃ ad A0 c0,A=some ad∧w.cell? (ad.add i.toNat)=some (.slice A0 (rd_L3 xs i).length c0)∧(rd_L3 xs i).length≤c0∧k91.C w A0 (rd_L3 xs i).length (rd_L3 xs i):=by
 obtain ⟨ad,c,e,_,hK,hc0⟩:=Kd.C_get h ([]:List S91) i h0 h1
 have hc:∀ j u,c[j]?=some u→w.cell? (ad.add (i.toNat*1+j))=some u:=hc0
 obtain ⟨A0,c0,rfl,l0,g0⟩:=hK
 exact ⟨ad,A0,c0,e,by have hq:=hc 0 _ rfl;rwa [Nat.mul_one,Nat.add_zero] at hq,l0,g0⟩
/-! #### struct type 63 -/
structure S63 where
 f0:Int
 f1:Int
 f2:ByteArray
 f3:(List S91)
 f4:ByteArray
 f5:Int
def z63:S63:=⟨(0:Int),(0:Int),(⟨#[]⟩:ByteArray),([]:List S91),(⟨#[]⟩:ByteArray),(0:Int)⟩
def k63:Kd S63:=Kd.iso (Kd.pair (Kd.int .i64) (Kd.pair (Kd.int .i64) (Kd.pair Kd.string (Kd.pair (Kd.slice 91 k91) (Kd.pair Kd.string (Kd.int .i64)))))) (fun x:S63=>(x.f0,x.f1,x.f2,x.f3,x.f4,x.f5))
theorem k63_open {w:World} {x:S63} {cs:List Value} (h:k63.K w x cs):∃ A3 c3,cs=[.int .i64 x.f0,.int .i64 x.f1,.string x.f2,.slice A3 x.f3.length c3,.string x.f4,.int .i64 x.f5]∧x.f3.length≤c3∧k91.C w A3 x.f3.length x.f3:=by
 obtain ⟨_,_,rfl,rfl,⟨_,_,rfl,rfl,⟨_,_,rfl,rfl,⟨_,_,rfl,⟨A3,c3,rfl,l3,g3⟩,⟨_,_,rfl,rfl,rfl⟩⟩⟩⟩⟩:=h
 exact ⟨A3,c3,rfl,l3,g3⟩
theorem k63_openM {w:World} {base:Nat} {ok:Nat→Prop} {x:S63} {cs:List Value} (h:k63.M w base ok x cs):∃ v3,cs=[.int .i64 x.f0,.int .i64 x.f1,.string x.f2,v3,.string x.f4,.int .i64 x.f5]∧k91.R 91 w base ok v3 x.f3:=by
 obtain ⟨_,_,rfl,rfl,⟨_,_,rfl,rfl,⟨_,_,rfl,rfl,⟨_,_,rfl,⟨v3,rfl,g3⟩,⟨_,_,rfl,rfl,rfl⟩⟩⟩⟩⟩:=h
 exact ⟨v3,rfl,g3⟩
theorem k63_mk (w:World) (x:S63) {A3:Option Addr} {c3:Nat} (l3:x.f3.length≤c3) (g3:k91.C w A3 x.f3.length x.f3):k63.K w x [.int .i64 x.f0,.int .i64 x.f1,.string x.f2,.slice A3 x.f3.length c3,.string x.f4,.int .i64 x.f5]:=⟨[.int .i64 x.f0],[.int .i64 x.f1,.string x.f2,.slice A3 x.f3.length c3,.string x.f4,.int .i64 x.f5],rfl,rfl,⟨[.int .i64 x.f1],[.string x.f2,.slice A3 x.f3.length c3,.string x.f4,.int .i64 x.f5],rfl,rfl,⟨[.string x.f2],[.slice A3 x.f3.length c3,.string x.f4,.int .i64 x.f5],rfl,rfl,⟨[.slice A3 x.f3.length c3],[.string x.f4,.int .i64 x.f5],rfl,⟨A3,c3,rfl,l3,g3⟩,⟨[.string x.f4],[.int .i64 x.f5],rfl,rfl,rfl⟩⟩⟩⟩⟩
theorem k63_mkM (w:World) (base:Nat) (ok:Nat→Prop) (x:S63) {v3:Value} (g3:k91.R 91 w base ok v3 x.f3):k63.M w base ok x [.int .i64 x.f0,.int .i64 x.f1,.string x.f2,v3,.string x.f4,.int .i64 x.f5]:=⟨[.int .i64 x.f0],[.int .i64 x.f1,.string x.f2,v3,.string x.f4,.int .i64 x.f5],rfl,rfl,⟨[.int .i64 x.f1],[.string x.f2,v3,.string x.f4,.int .i64 x.f5],rfl,rfl,⟨[.string x.f2],[v3,.string x.f4,.int .i64 x.f5],rfl,rfl,⟨[v3],[.string x.f4,.int .i64 x.f5],rfl,⟨v3,rfl,g3⟩,⟨[.string x.f4],[.int .i64 x.f5],rfl,rfl,rfl⟩⟩⟩⟩⟩
def rd_T63 (xs:List S63) (i:Int):S63:=xs.getD i.toNat z63
theorem at_T63 {w:World} {A:Option Addr} {n:Nat} {xs:List S63} (h:Kd.C k63 w A n xs) (i:Int) (h0:0≤i) (h1:i<n):∃ ad A3 c3,A=some ad∧w.cell? (ad.add (i.toNat*6))=some (.int .i64 (rd_T63 xs i).f0)∧w.cell? ⟨(ad.add (i.toNat*6)).block,(ad.add (i.toNat*6)).off+1,none⟩=some (.int .i64 (rd_T63 xs i).f1)∧w.cell? ⟨(ad.add (i.toNat*6)).block,(ad.add (i.toNat*6)).off+2,none⟩=some (.string (rd_T63 xs i).f2)∧w.cell? ⟨(ad.add (i.toNat*6)).block,(ad.add (i.toNat*6)).off+3,none⟩=some (.slice A3 (rd_T63 xs i).f3.length c3)∧w.cell? ⟨(ad.add (i.toNat*6)).block,(ad.add (i.toNat*6)).off+4,none⟩=some (.string (rd_T63 xs i).f4)∧w.cell? ⟨(ad.add (i.toNat*6)).block,(ad.add (i.toNat*6)).off+5,none⟩=some (.int .i64 (rd_T63 xs i).f5)∧(rd_T63 xs i).f3.length≤c3∧k91.C w A3 (rd_T63 xs i).f3.length (rd_T63 xs i).f3:=by
 obtain ⟨ad,c,e,_,hK,hc0⟩:=Kd.C_get h z63 i h0 h1
 have hc:∀ j u,c[j]?=some u→w.cell? (ad.add (i.toNat*6+j))=some u:=hc0
 obtain ⟨A3,c3,rfl,l3,g3⟩:=k63_open hK
 exact ⟨ad,A3,c3,e,hc 0 _ rfl,by rw [← add_field _ _ 1 (by omega)];exact hc 1 _ rfl,by rw [← add_field _ _ 2 (by omega)];exact hc 2 _ rfl,by rw [← add_field _ _ 3 (by omega)];exact hc 3 _ rfl,by rw [← add_field _ _ 4 (by omega)];exact hc 4 _ rfl,by rw [← add_field _ _ 5 (by omega)];exact hc 5 _ rfl,l3,g3⟩
/-! #### struct type 77 -/
structure S77 where
 f0:ByteArray
 f1:ByteArray
def z77:S77:=⟨(⟨#[]⟩:ByteArray),(⟨#[]⟩:ByteArray)⟩
def k77:Kd S77:=Kd.iso (Kd.pair Kd.string Kd.string) (fun x:S77=>(x.f0,x.f1))
theorem k77_open {w:World} {x:S77} {cs:List Value} (h:k77.K w x cs):cs=[.string x.f0,.string x.f1]:=by
 obtain ⟨_,_,rfl,rfl,rfl⟩:=h
 exact rfl
theorem k77_openM {w:World} {base:Nat} {ok:Nat→Prop} {x:S77} {cs:List Value} (h:k77.M w base ok x cs):cs=[.string x.f0,.string x.f1]:=by
 obtain ⟨_,_,rfl,rfl,rfl⟩:=h
 exact rfl
theorem k77_mk (w:World) (x:S77) :k77.K w x [.string x.f0,.string x.f1]:=⟨[.string x.f0],[.string x.f1],rfl,rfl,rfl⟩
theorem k77_mkM (w:World) (base:Nat) (ok:Nat→Prop) (x:S77) :k77.M w base ok x [.string x.f0,.string x.f1]:=⟨[.string x.f0],[.string x.f1],rfl,rfl,rfl⟩
def rd_T77 (xs:List S77) (i:Int):S77:=xs.getD i.toNat z77
theorem at_T77 {w:World} {A:Option Addr} {n:Nat} {xs:List S77} (h:Kd.C k77 w A n xs) (i:Int) (h0:0≤i) (h1:i<n):∃ ad,A=some ad∧w.cell? (ad.add (i.toNat*2))=some (.string (rd_T77 xs i).f0)∧w.cell? ⟨(ad.add (i.toNat*2)).block,(ad.add (i.toNat*2)).off+1,none⟩=some (.string (rd_T77 xs i).f1):=by
 obtain ⟨ad,c,e,_,hK,hc0⟩:=Kd.C_get h z77 i h0 h1
 have hc:∀ j u,c[j]?=some u→w.cell? (ad.add (i.toNat*2+j))=some u:=hc0
 obtain rfl:=k77_open hK
 exact ⟨ad,e,hc 0 _ rfl,by rw [← add_field _ _ 1 (by omega)];exact hc 1 _ rfl⟩
def rd_L6 (xs:List (List S77)) (i:Int):(List S77):=xs.getD i.toNat ([]:List S77)
theorem at_L6 {w:World} {A:Option Addr} {n:Nat} {xs:List (List S77)} (h:Kd.C (Kd.slice 77 k77) w A n xs) (i:Int) (h0:0≤i) (h1:i<n):∃ ad A0 c0,A=some ad∧w.cell? (ad.add i.toNat)=some (.slice A0 (rd_L6 xs i).length c0)∧(rd_L6 xs i).length≤c0∧k77.C w A0 (rd_L6 xs i).length (rd_L6 xs i):=by
 obtain ⟨ad,c,e,_,hK,hc0⟩:=Kd.C_get h ([]:List S77) i h0 h1
 have hc:∀ j u,c[j]?=some u→w.cell? (ad.add (i.toNat*1+j))=some u:=hc0
 obtain ⟨A0,c0,rfl,l0,g0⟩:=hK
 exact ⟨ad,A0,c0,e,by have hq:=hc 0 _ rfl;rwa [Nat.mul_one,Nat.add_zero] at hq,l0,g0⟩
/-! #### struct type 57 -/
structure S57 where
 f0:Int
 f1:Int
 f2:ByteArray
 f3:(List S77)
 f4:ByteArray
 f5:Int
def z57:S57:=⟨(0:Int),(0:Int),(⟨#[]⟩:ByteArray),([]:List S77),(⟨#[]⟩:ByteArray),(0:Int)⟩
def k57:Kd S57:=Kd.iso (Kd.pair (Kd.int .i64) (Kd.pair (Kd.int .i64) (Kd.pair Kd.string (Kd.pair (Kd.slice 77 k77) (Kd.pair Kd.string (Kd.int .i64)))))) (fun x:S57=>(x.f0,x.f1,x.f2,x.f3,x.f4,x.f5))
theorem k57_open {w:World} {x:S57} {cs:List Value} (h:k57.K w x cs):∃ A3 c3,cs=[.int .i64 x.f0,.int .i64 x.f1,.string x.f2,.slice A3 x.f3.length c3,.string x.f4,.int .i64 x.f5]∧x.f3.length≤c3∧k77.C w A3 x.f3.length x.f3:=by
 obtain ⟨_,_,rfl,rfl,⟨_,_,rfl,rfl,⟨_,_,rfl,rfl,⟨_,_,rfl,⟨A3,c3,rfl,l3,g3⟩,⟨_,_,rfl,rfl,rfl⟩⟩⟩⟩⟩:=h
 exact ⟨A3,c3,rfl,l3,g3⟩
theorem k57_openM {w:World} {base:Nat} {ok:Nat→Prop} {x:S57} {cs:List Value} (h:k57.M w base ok x cs):∃ v3,cs=[.int .i64 x.f0,.int .i64 x.f1,.string x.f2,v3,.string x.f4,.int .i64 x.f5]∧k77.R 77 w base ok v3 x.f3:=by
 obtain ⟨_,_,rfl,rfl,⟨_,_,rfl,rfl,⟨_,_,rfl,rfl,⟨_,_,rfl,⟨v3,rfl,g3⟩,⟨_,_,rfl,rfl,rfl⟩⟩⟩⟩⟩:=h
 exact ⟨v3,rfl,g3⟩
theorem k57_mk (w:World) (x:S57) {A3:Option Addr} {c3:Nat} (l3:x.f3.length≤c3) (g3:k77.C w A3 x.f3.length x.f3):k57.K w x [.int .i64 x.f0,.int .i64 x.f1,.string x.f2,.slice A3 x.f3.length c3,.string x.f4,.int .i64 x.f5]:=⟨[.int .i64 x.f0],[.int .i64 x.f1,.string x.f2,.slice A3 x.f3.length c3,.string x.f4,.int .i64 x.f5],rfl,rfl,⟨[.int .i64 x.f1],[.string x.f2,.slice A3 x.f3.length c3,.string x.f4,.int .i64 x.f5],rfl,rfl,⟨[.string x.f2],[.slice A3 x.f3.length c3,.string x.f4,.int .i64 x.f5],rfl,rfl,⟨[.slice A3 x.f3.length c3],[.string x.f4,.int .i64 x.f5],rfl,⟨A3,c3,rfl,l3,g3⟩,⟨[.string x.f4],[.int .i64 x.f5],rfl,rfl,rfl⟩⟩⟩⟩⟩
theorem k57_mkM (w:World) (base:Nat) (ok:Nat→Prop) (x:S57) {v3:Value} (g3:k77.R 77 w base ok v3 x.f3):k57.M w base ok x [.int .i64 x.f0,.int .i64 x.f1,.string x.f2,v3,.string x.f4,.int .i64 x.f5]:=⟨[.int .i64 x.f0],[.int .i64 x.f1,.string x.f2,v3,.string x.f4,.int .i64 x.f5],rfl,rfl,⟨[.int .i64 x.f1],[.string x.f2,v3,.string x.f4,.int .i64 x.f5],rfl,rfl,⟨[.string x.f2],[v3,.string x.f4,.int .i64 x.f5],rfl,rfl,⟨[v3],[.string x.f4,.int .i64 x.f5],rfl,⟨v3,rfl,g3⟩,⟨[.string x.f4],[.int .i64 x.f5],rfl,rfl,rfl⟩⟩⟩⟩⟩
def rd_T57 (xs:List S57) (i:Int):S57:=xs.getD i.toNat z57
theorem at_T57 {w:World} {A:Option Addr} {n:Nat} {xs:List S57} (h:Kd.C k57 w A n xs) (i:Int) (h0:0≤i) (h1:i<n):∃ ad A3 c3,A=some ad∧w.cell? (ad.add (i.toNat*6))=some (.int .i64 (rd_T57 xs i).f0)∧w.cell? ⟨(ad.add (i.toNat*6)).block,(ad.add (i.toNat*6)).off+1,none⟩=some (.int .i64 (rd_T57 xs i).f1)∧w.cell? ⟨(ad.add (i.toNat*6)).block,(ad.add (i.toNat*6)).off+2,none⟩=some (.string (rd_T57 xs i).f2)∧w.cell? ⟨(ad.add (i.toNat*6)).block,(ad.add (i.toNat*6)).off+3,none⟩=some (.slice A3 (rd_T57 xs i).f3.length c3)∧w.cell? ⟨(ad.add (i.toNat*6)).block,(ad.add (i.toNat*6)).off+4,none⟩=some (.string (rd_T57 xs i).f4)∧w.cell? ⟨(ad.add (i.toNat*6)).block,(ad.add (i.toNat*6)).off+5,none⟩=some (.int .i64 (rd_T57 xs i).f5)∧(rd_T57 xs i).f3.length≤c3∧k77.C w A3 (rd_T57 xs i).f3.length (rd_T57 xs i).f3:=by
 obtain ⟨ad,c,e,_,hK,hc0⟩:=Kd.C_get h z57 i h0 h1
 have hc:∀ j u,c[j]?=some u→w.cell? (ad.add (i.toNat*6+j))=some u:=hc0
 obtain ⟨A3,c3,rfl,l3,g3⟩:=k57_open hK
 exact ⟨ad,A3,c3,e,hc 0 _ rfl,by rw [← add_field _ _ 1 (by omega)];exact hc 1 _ rfl,by rw [← add_field _ _ 2 (by omega)];exact hc 2 _ rfl,by rw [← add_field _ _ 3 (by omega)];exact hc 3 _ rfl,by rw [← add_field _ _ 4 (by omega)];exact hc 4 _ rfl,by rw [← add_field _ _ 5 (by omega)];exact hc 5 _ rfl,l3,g3⟩
/-! #### struct type 167 -/
structure S167 where
 f0:Int
 f1:Int
 f2:Int
def z167:S167:=⟨(0:Int),(0:Int),(0:Int)⟩
def k167:Kd S167:=Kd.iso (Kd.pair (Kd.int .u16) (Kd.pair (Kd.int .u16) (Kd.int .u16))) (fun x:S167=>(x.f0,x.f1,x.f2))
theorem k167_open {w:World} {x:S167} {cs:List Value} (h:k167.K w x cs):cs=[.int .u16 x.f0,.int .u16 x.f1,.int .u16 x.f2]:=by
 obtain ⟨_,_,rfl,rfl,⟨_,_,rfl,rfl,rfl⟩⟩:=h
 exact rfl
theorem k167_openM {w:World} {base:Nat} {ok:Nat→Prop} {x:S167} {cs:List Value} (h:k167.M w base ok x cs):cs=[.int .u16 x.f0,.int .u16 x.f1,.int .u16 x.f2]:=by
 obtain ⟨_,_,rfl,rfl,⟨_,_,rfl,rfl,rfl⟩⟩:=h
 exact rfl
theorem k167_mk (w:World) (x:S167) :k167.K w x [.int .u16 x.f0,.int .u16 x.f1,.int .u16 x.f2]:=⟨[.int .u16 x.f0],[.int .u16 x.f1,.int .u16 x.f2],rfl,rfl,⟨[.int .u16 x.f1],[.int .u16 x.f2],rfl,rfl,rfl⟩⟩
theorem k167_mkM (w:World) (base:Nat) (ok:Nat→Prop) (x:S167) :k167.M w base ok x [.int .u16 x.f0,.int .u16 x.f1,.int .u16 x.f2]:=⟨[.int .u16 x.f0],[.int .u16 x.f1,.int .u16 x.f2],rfl,rfl,⟨[.int .u16 x.f1],[.int .u16 x.f2],rfl,rfl,rfl⟩⟩
def rd_T167 (xs:List S167) (i:Int):S167:=xs.getD i.toNat z167
theorem at_T167 {w:World} {A:Option Addr} {n:Nat} {xs:List S167} (h:Kd.C k167 w A n xs) (i:Int) (h0:0≤i) (h1:i<n):∃ ad,A=some ad∧w.cell? (ad.add (i.toNat*3))=some (.int .u16 (rd_T167 xs i).f0)∧w.cell? ⟨(ad.add (i.toNat*3)).block,(ad.add (i.toNat*3)).off+1,none⟩=some (.int .u16 (rd_T167 xs i).f1)∧w.cell? ⟨(ad.add (i.toNat*3)).block,(ad.add (i.toNat*3)).off+2,none⟩=some (.int .u16 (rd_T167 xs i).f2):=by
 obtain ⟨ad,c,e,_,hK,hc0⟩:=Kd.C_get h z167 i h0 h1
 have hc:∀ j u,c[j]?=some u→w.cell? (ad.add (i.toNat*3+j))=some u:=hc0
 obtain rfl:=k167_open hK
 exact ⟨ad,e,hc 0 _ rfl,by rw [← add_field _ _ 1 (by omega)];exact hc 1 _ rfl,by rw [← add_field _ _ 2 (by omega)];exact hc 2 _ rfl⟩
/-! #### struct type 170 -/
structure S170 where
 f0:Int
 f1:Int
 f2:Int
def z170:S170:=⟨(0:Int),(0:Int),(0:Int)⟩
def k170:Kd S170:=Kd.iso (Kd.pair (Kd.int .u32) (Kd.pair (Kd.int .u32) (Kd.int .u32))) (fun x:S170=>(x.f0,x.f1,x.f2))
theorem k170_open {w:World} {x:S170} {cs:List Value} (h:k170.K w x cs):cs=[.int .u32 x.f0,.int .u32 x.f1,.int .u32 x.f2]:=by
 obtain ⟨_,_,rfl,rfl,⟨_,_,rfl,rfl,rfl⟩⟩:=h
 exact rfl
theorem k170_openM {w:World} {base:Nat} {ok:Nat→Prop} {x:S170} {cs:List Value} (h:k170.M w base ok x cs):cs=[.int .u32 x.f0,.int .u32 x.f1,.int .u32 x.f2]:=by
 obtain ⟨_,_,rfl,rfl,⟨_,_,rfl,rfl,rfl⟩⟩:=h
 exact rfl
theorem k170_mk (w:World) (x:S170) :k170.K w x [.int .u32 x.f0,.int .u32 x.f1,.int .u32 x.f2]:=⟨[.int .u32 x.f0],[.int .u32 x.f1,.int .u32 x.f2],rfl,rfl,⟨[.int .u32 x.f1],[.int .u32 x.f2],rfl,rfl,rfl⟩⟩
theorem k170_mkM (w:World) (base:Nat) (ok:Nat→Prop) (x:S170) :k170.M w base ok x [.int .u32 x.f0,.int .u32 x.f1,.int .u32 x.f2]:=⟨[.int .u32 x.f0],[.int .u32 x.f1,.int .u32 x.f2],rfl,rfl,⟨[.int .u32 x.f1],[.int .u32 x.f2],rfl,rfl,rfl⟩⟩
def rd_T170 (xs:List S170) (i:Int):S170:=xs.getD i.toNat z170
theorem at_T170 {w:World} {A:Option Addr} {n:Nat} {xs:List S170} (h:Kd.C k170 w A n xs) (i:Int) (h0:0≤i) (h1:i<n):∃ ad,A=some ad∧w.cell? (ad.add (i.toNat*3))=some (.int .u32 (rd_T170 xs i).f0)∧w.cell? ⟨(ad.add (i.toNat*3)).block,(ad.add (i.toNat*3)).off+1,none⟩=some (.int .u32 (rd_T170 xs i).f1)∧w.cell? ⟨(ad.add (i.toNat*3)).block,(ad.add (i.toNat*3)).off+2,none⟩=some (.int .u32 (rd_T170 xs i).f2):=by
 obtain ⟨ad,c,e,_,hK,hc0⟩:=Kd.C_get h z170 i h0 h1
 have hc:∀ j u,c[j]?=some u→w.cell? (ad.add (i.toNat*3+j))=some u:=hc0
 obtain rfl:=k170_open hK
 exact ⟨ad,e,hc 0 _ rfl,by rw [← add_field _ _ 1 (by omega)];exact hc 1 _ rfl,by rw [← add_field _ _ 2 (by omega)];exact hc 2 _ rfl⟩
end Go.Proofs.YtjojmfhgfeflnaaGreatDoor.QFnExactInner
