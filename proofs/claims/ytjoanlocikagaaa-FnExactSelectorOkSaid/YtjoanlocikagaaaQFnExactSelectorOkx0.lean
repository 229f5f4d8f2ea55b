/- Written by a program (wip/tools/own_print.py) out of the walk that the kit's printer made; turned where it fell. -/
import Derived.Test.YtjoanlocikagaaaProg
import Derived.Below
import Derived.Deep.Draws
import Derived.Deep.AppendLies
import Derived.Maps.AppendAt
import Derived.OwnWalk
import Derived.Laws.BytesArg
import Derived.Laws.MakeOwn
import Derived.Laws.OwnMore
import Derived.Deep.OwnRows
import Derived.Tactics
import Derived.Lib.ConvBytes
import Derived.Laws.Slices
import Derived.WalkKit
import Derived.KernelRfl
import Derived.RowKit3
import Derived.Deep.LoopGhost
import Derived.Deep.QuietTactic
import Derived.BigQuiet
import Derived.WideLaws
import Derived.Deep.DeepCutAuto
import Derived.Deep.CutBlock
import Derived.Deep.RegionHeld3
import Derived.Laws.Rows
import Derived.Lib.AppendStr
import Derived.ArgAppend
import Derived.Laws.IdiomCopy
import Derived.OrdersHeld
import Derived.Laws.BitsLemmas
import Derived.RowKit
import Derived.Test.YtjoanlocikagaaaWWords
import Derived.Test.YtjoanlocikagaaaWLast
import Derived.Test.YtjoanlocikagaaaWTab
import Derived.Test.YtjoanlocikagaaaWFour
import Derived.Test.YtjoanlocikagaaaWQPut
import Derived.Test.YtjoanlocikagaaaWApart
import Derived.Test.YtjoanlocikagaaaWArr
import Derived.Test.YtjoanlocikagaaaWZeros
import Derived.Test.YtjoanlocikagaaaWFoot
import Derived.Test.YtjoanlocikagaaaWKept
import Derived.Test.YtjoanlocikagaaaWShare
import Derived.Test.YtjoanlocikagaaaWN
import Derived.Test.YtjoanlocikagaaaWFootNe
import Derived.Test.YtjoanlocikagaaaWAt
import Derived.Test.YtjoanlocikagaaaWEqStruct
import Derived.Test.YtjoanlocikagaaaWRepsOne
import Derived.Test.YtjoanlocikagaaaWInv
import Derived.Test.YtjoanlocikagaaaWInvWords
import Derived.Test.YtjoanlocikagaaaWGuard
import Derived.Test.YtjoanlocikagaaaWNEv
import Derived.Test.YtjoanlocikagaaaWMore
namespace Go.Proofs.Ytjoanlocikagaaa.QFnExactSelectorOk
open Go.RowKit Go.Proofs.YtjoanlocikagaaaW.PrintWords Go.Proofs.YtjoanlocikagaaaW.PrintLast Go.Proofs.YtjoanlocikagaaaW.PrintMore
attribute [local go_sem] max2_int min2_int max_two min_two max_three min_three max_four min_four   -- for this text's walks alone
set_option linter.unusedVariables false
set_option linter.unusedSimpArgs false



def errW : Option Int → Value
 | none => .nilIface
 | some c => .iface 0 (.int .i64 c)
theorem errW_none : errW none = .nilIface := rfl
theorem errW_some (c : Int) : errW (some c) = .iface 0 (.int .i64 c) := rfl

theorem info158 : (Try.prog.info? 158).map (fun i => (i.zero, i.size, i.bytes)) = some (some (.agg #[(.int .i64 0), (.slice none 0 0)]), 2, 32) := by kernel_rfl
theorem info161 : (Try.prog.info? 161).map (fun i => (i.zero, i.size, i.bytes)) = some (some (.agg #[(.int .i64 0), (.string ⟨#[]⟩), (.string ⟨#[]⟩), (.int .i64 0), (.int .i64 0)]), 5, 56) := by kernel_rfl
theorem info164 : (Try.prog.info? 164).map (fun i => (i.zero, i.size, i.bytes)) = some (some (.agg #[(.int .i64 0), (.string ⟨#[]⟩), (.string ⟨#[]⟩), (.int .i64 0), (.int .i64 0), (.slice none 0 0)]), 6, 80) := by kernel_rfl
theorem info228 : (Try.prog.info? 228).map (fun i => (i.zero, i.size, i.bytes)) = some (some (.agg #[(.slice none 0 0)]), 1, 24) := by kernel_rfl
-- the values' own types
/-! #### struct type 270 -/
structure S270 where
  f0 : Int
  f1 : ByteArray
  f2 : ByteArray
  f3 : Int
  f4 : Int
def z270 : S270 := ⟨(0 : Int), (⟨#[]⟩ : ByteArray), (⟨#[]⟩ : ByteArray), (0 : Int), (0 : Int)⟩
def k270 : Kd S270 := Kd.iso (Kd.pair (Kd.int .i64) (Kd.pair Kd.string (Kd.pair Kd.string (Kd.pair (Kd.int .i64) (Kd.int .i64))))) (fun x : S270 => (x.f0, x.f1, x.f2, x.f3, x.f4))
theorem k270_open {w : World} {x : S270} {cs : List Value} (h : k270.K w x cs) : cs = [.int .i64 x.f0, .string x.f1, .string x.f2, .int .i64 x.f3, .int .i64 x.f4] := by
 obtain ⟨_, _, rfl, rfl, ⟨_, _, rfl, rfl, ⟨_, _, rfl, rfl, ⟨_, _, rfl, rfl, rfl⟩⟩⟩⟩ := h
 exact rfl
theorem k270_openM {w : World} {base : Nat} {ok : Nat → Prop} {x : S270} {cs : List Value} (h : k270.M w base ok x cs) : cs = [.int .i64 x.f0, .string x.f1, .string x.f2, .int .i64 x.f3, .int .i64 x.f4] := by
 obtain ⟨_, _, rfl, rfl, ⟨_, _, rfl, rfl, ⟨_, _, rfl, rfl, ⟨_, _, rfl, rfl, rfl⟩⟩⟩⟩ := h
 exact rfl
theorem k270_mk (w : World) (x : S270)  : k270.K w x [.int .i64 x.f0, .string x.f1, .string x.f2, .int .i64 x.f3, .int .i64 x.f4] := ⟨[.int .i64 x.f0], [.string x.f1, .string x.f2, .int .i64 x.f3, .int .i64 x.f4], rfl, rfl, ⟨[.string x.f1], [.string x.f2, .int .i64 x.f3, .int .i64 x.f4], rfl, rfl, ⟨[.string x.f2], [.int .i64 x.f3, .int .i64 x.f4], rfl, rfl, ⟨[.int .i64 x.f3], [.int .i64 x.f4], rfl, rfl, rfl⟩⟩⟩⟩
theorem k270_mkM (w : World) (base : Nat) (ok : Nat → Prop) (x : S270)  : k270.M w base ok x [.int .i64 x.f0, .string x.f1, .string x.f2, .int .i64 x.f3, .int .i64 x.f4] := ⟨[.int .i64 x.f0], [.string x.f1, .string x.f2, .int .i64 x.f3, .int .i64 x.f4], rfl, rfl, ⟨[.string x.f1], [.string x.f2, .int .i64 x.f3, .int .i64 x.f4], rfl, rfl, ⟨[.string x.f2], [.int .i64 x.f3, .int .i64 x.f4], rfl, rfl, ⟨[.int .i64 x.f3], [.int .i64 x.f4], rfl, rfl, rfl⟩⟩⟩⟩
def rd_T270 (xs : List S270) (i : Int) : S270 := xs.getD i.toNat z270
theorem at_T270 {w : World} {A : Option Addr} {n : Nat} {xs : List S270} (h : Kd.C k270 w A n xs) (i : Int) (h0 : 0 ≤ i) (h1 : i < n) : ∃ ad , A = some ad ∧ w.cell? (ad.add (i.toNat * 5)) = some (.int .i64 (rd_T270 xs i).f0) ∧ w.cell? ⟨(ad.add (i.toNat * 5)).block, (ad.add (i.toNat * 5)).off + 1, none⟩ = some (.string (rd_T270 xs i).f1) ∧ w.cell? ⟨(ad.add (i.toNat * 5)).block, (ad.add (i.toNat * 5)).off + 2, none⟩ = some (.string (rd_T270 xs i).f2) ∧ w.cell? ⟨(ad.add (i.toNat * 5)).block, (ad.add (i.toNat * 5)).off + 3, none⟩ = some (.int .i64 (rd_T270 xs i).f3) ∧ w.cell? ⟨(ad.add (i.toNat * 5)).block, (ad.add (i.toNat * 5)).off + 4, none⟩ = some (.int .i64 (rd_T270 xs i).f4) := by
 obtain ⟨ad, c, e, _, hK, hc0⟩ := Kd.C_get h z270 i h0 h1
 have hc : ∀ j u, c[j]? = some u → w.cell? (ad.add (i.toNat * 5 + j)) = some u := hc0
 obtain rfl := k270_open hK
 exact ⟨ad, e, hc 0 _ rfl, by rw [← add_field _ _ 1 (by omega)];exact hc 1 _ rfl, by rw [← add_field _ _ 2 (by omega)];exact hc 2 _ rfl, by rw [← add_field _ _ 3 (by omega)];exact hc 3 _ rfl, by rw [← add_field _ _ 4 (by omega)];exact hc 4 _ rfl⟩

def rd_L3 (xs : List (List S270)) (i : Int) : (List S270) := xs.getD i.toNat ([] : List S270)
theorem at_L3 {w : World} {A : Option Addr} {n : Nat} {xs : List (List S270)} (h : Kd.C (Kd.slice 270 k270) w A n xs) (i : Int) (h0 : 0 ≤ i) (h1 : i < n) : ∃ ad A0 c0, A = some ad ∧ w.cell? (ad.add i.toNat) = some (.slice A0 (rd_L3 xs i).length c0) ∧ (rd_L3 xs i).length ≤ c0 ∧ k270.C w A0 (rd_L3 xs i).length (rd_L3 xs i) := by
 obtain ⟨ad, c, e, _, hK, hc0⟩ := Kd.C_get h ([] : List S270) i h0 h1
 have hc : ∀ j u, c[j]? = some u → w.cell? (ad.add (i.toNat * 1 + j)) = some u := hc0
 obtain ⟨A0, c0, rfl, l0, g0⟩ := hK
 exact ⟨ad, A0, c0, e, by have hq := hc 0 _ rfl;rwa [Nat.mul_one, Nat.add_zero] at hq, l0, g0⟩

/-! #### struct type 310 -/
structure S310 where
  f0 : (List S270)
def z310 : S310 := ⟨([] : List S270)⟩
def k310 : Kd S310 := Kd.iso (Kd.slice 270 k270) (fun x : S310 => x.f0)
theorem k310_open {w : World} {x : S310} {cs : List Value} (h : k310.K w x cs) : ∃ A0 c0, cs = [.slice A0 x.f0.length c0] ∧ x.f0.length ≤ c0 ∧ k270.C w A0 x.f0.length x.f0 := by
 obtain ⟨A0, c0, rfl, l0, g0⟩ := h
 exact ⟨A0, c0, rfl, l0, g0⟩
theorem k310_openM {w : World} {base : Nat} {ok : Nat → Prop} {x : S310} {cs : List Value} (h : k310.M w base ok x cs) : ∃ v0, cs = [v0] ∧ k270.R 270 w base ok v0 x.f0 := by
 obtain ⟨v0, rfl, g0⟩ := h
 exact ⟨v0, rfl, g0⟩
theorem k310_mk (w : World) (x : S310) {A0 : Option Addr} {c0 : Nat} (l0 : x.f0.length ≤ c0) (g0 : k270.C w A0 x.f0.length x.f0) : k310.K w x [.slice A0 x.f0.length c0] := ⟨A0, c0, rfl, l0, g0⟩
theorem k310_mkM (w : World) (base : Nat) (ok : Nat → Prop) (x : S310) {v0 : Value} (g0 : k270.R 270 w base ok v0 x.f0) : k310.M w base ok x [v0] := ⟨v0, rfl, g0⟩
def rd_T310 (xs : List S310) (i : Int) : S310 := xs.getD i.toNat z310
theorem at_T310 {w : World} {A : Option Addr} {n : Nat} {xs : List S310} (h : Kd.C k310 w A n xs) (i : Int) (h0 : 0 ≤ i) (h1 : i < n) : ∃ ad A0 c0, A = some ad ∧ w.cell? (ad.add i.toNat) = some (.slice A0 (rd_T310 xs i).f0.length c0) ∧ (rd_T310 xs i).f0.length ≤ c0 ∧ k270.C w A0 (rd_T310 xs i).f0.length (rd_T310 xs i).f0 := by
 obtain ⟨ad, c, e, _, hK, hc0⟩ := Kd.C_get h z310 i h0 h1
 have hc : ∀ j u, c[j]? = some u → w.cell? (ad.add (i.toNat * 1 + j)) = some u := hc0
 obtain ⟨A0, c0, rfl, l0, g0⟩ := k310_open hK
 exact ⟨ad, A0, c0, e, by have hq := hc 0 _ rfl;rwa [Nat.mul_one, Nat.add_zero] at hq, l0, g0⟩

def rd_L5 (xs : List (List S310)) (i : Int) : (List S310) := xs.getD i.toNat ([] : List S310)
theorem at_L5 {w : World} {A : Option Addr} {n : Nat} {xs : List (List S310)} (h : Kd.C (Kd.slice 310 k310) w A n xs) (i : Int) (h0 : 0 ≤ i) (h1 : i < n) : ∃ ad A0 c0, A = some ad ∧ w.cell? (ad.add i.toNat) = some (.slice A0 (rd_L5 xs i).length c0) ∧ (rd_L5 xs i).length ≤ c0 ∧ k310.C w A0 (rd_L5 xs i).length (rd_L5 xs i) := by
 obtain ⟨ad, c, e, _, hK, hc0⟩ := Kd.C_get h ([] : List S310) i h0 h1
 have hc : ∀ j u, c[j]? = some u → w.cell? (ad.add (i.toNat * 1 + j)) = some u := hc0
 obtain ⟨A0, c0, rfl, l0, g0⟩ := hK
 exact ⟨ad, A0, c0, e, by have hq := hc 0 _ rfl;rwa [Nat.mul_one, Nat.add_zero] at hq, l0, g0⟩

/-! #### struct type 273 -/
structure S273 where
  f0 : S270
  f1 : (List S310)
def z273 : S273 := ⟨z270, ([] : List S310)⟩
def k273 : Kd S273 := Kd.iso (Kd.pair k270 (Kd.slice 310 k310)) (fun x : S273 => (x.f0, x.f1))
theorem k273_open {w : World} {x : S273} {cs : List Value} (h : k273.K w x cs) : ∃ A5 c5, cs = [.int .i64 x.f0.f0, .string x.f0.f1, .string x.f0.f2, .int .i64 x.f0.f3, .int .i64 x.f0.f4, .slice A5 x.f1.length c5] ∧ x.f1.length ≤ c5 ∧ k310.C w A5 x.f1.length x.f1 := by
 obtain ⟨_, _, rfl, s0, ⟨A5, c5, rfl, l5, g5⟩⟩ := h
 obtain rfl := k270_open s0
 exact ⟨A5, c5, rfl, l5, g5⟩
theorem k273_openM {w : World} {base : Nat} {ok : Nat → Prop} {x : S273} {cs : List Value} (h : k273.M w base ok x cs) : ∃ v5, cs = [.int .i64 x.f0.f0, .string x.f0.f1, .string x.f0.f2, .int .i64 x.f0.f3, .int .i64 x.f0.f4, v5] ∧ k310.R 310 w base ok v5 x.f1 := by
 obtain ⟨_, _, rfl, s0, ⟨v5, rfl, g5⟩⟩ := h
 obtain rfl := k270_openM s0
 exact ⟨v5, rfl, g5⟩
theorem k273_mk (w : World) (x : S273) {A5 : Option Addr} {c5 : Nat} (l5 : x.f1.length ≤ c5) (g5 : k310.C w A5 x.f1.length x.f1) : k273.K w x [.int .i64 x.f0.f0, .string x.f0.f1, .string x.f0.f2, .int .i64 x.f0.f3, .int .i64 x.f0.f4, .slice A5 x.f1.length c5] := ⟨[.int .i64 x.f0.f0, .string x.f0.f1, .string x.f0.f2, .int .i64 x.f0.f3, .int .i64 x.f0.f4], [.slice A5 x.f1.length c5], rfl, (k270_mk w x.f0 ), ⟨A5, c5, rfl, l5, g5⟩⟩
theorem k273_mkM (w : World) (base : Nat) (ok : Nat → Prop) (x : S273) {v5 : Value} (g5 : k310.R 310 w base ok v5 x.f1) : k273.M w base ok x [.int .i64 x.f0.f0, .string x.f0.f1, .string x.f0.f2, .int .i64 x.f0.f3, .int .i64 x.f0.f4, v5] := ⟨[.int .i64 x.f0.f0, .string x.f0.f1, .string x.f0.f2, .int .i64 x.f0.f3, .int .i64 x.f0.f4], [v5], rfl, (k270_mkM w base ok x.f0 ), ⟨v5, rfl, g5⟩⟩
def rd_T273 (xs : List S273) (i : Int) : S273 := xs.getD i.toNat z273
theorem at_T273 {w : World} {A : Option Addr} {n : Nat} {xs : List S273} (h : Kd.C k273 w A n xs) (i : Int) (h0 : 0 ≤ i) (h1 : i < n) : ∃ ad A5 c5, A = some ad ∧ w.cell? (ad.add (i.toNat * 6)) = some (.int .i64 (rd_T273 xs i).f0.f0) ∧ w.cell? ⟨(ad.add (i.toNat * 6)).block, (ad.add (i.toNat * 6)).off + 1, none⟩ = some (.string (rd_T273 xs i).f0.f1) ∧ w.cell? ⟨(ad.add (i.toNat * 6)).block, (ad.add (i.toNat * 6)).off + 2, none⟩ = some (.string (rd_T273 xs i).f0.f2) ∧ w.cell? ⟨(ad.add (i.toNat * 6)).block, (ad.add (i.toNat * 6)).off + 3, none⟩ = some (.int .i64 (rd_T273 xs i).f0.f3) ∧ w.cell? ⟨(ad.add (i.toNat * 6)).block, (ad.add (i.toNat * 6)).off + 4, none⟩ = some (.int .i64 (rd_T273 xs i).f0.f4) ∧ w.cell? ⟨(ad.add (i.toNat * 6)).block, (ad.add (i.toNat * 6)).off + 5, none⟩ = some (.slice A5 (rd_T273 xs i).f1.length c5) ∧ (rd_T273 xs i).f1.length ≤ c5 ∧ k310.C w A5 (rd_T273 xs i).f1.length (rd_T273 xs i).f1 := by
 obtain ⟨ad, c, e, _, hK, hc0⟩ := Kd.C_get h z273 i h0 h1
 have hc : ∀ j u, c[j]? = some u → w.cell? (ad.add (i.toNat * 6 + j)) = some u := hc0
 obtain ⟨A5, c5, rfl, l5, g5⟩ := k273_open hK
 exact ⟨ad, A5, c5, e, hc 0 _ rfl, by rw [← add_field _ _ 1 (by omega)];exact hc 1 _ rfl, by rw [← add_field _ _ 2 (by omega)];exact hc 2 _ rfl, by rw [← add_field _ _ 3 (by omega)];exact hc 3 _ rfl, by rw [← add_field _ _ 4 (by omega)];exact hc 4 _ rfl, by rw [← add_field _ _ 5 (by omega)];exact hc 5 _ rfl, l5, g5⟩

def rd_L7 (xs : List (List S273)) (i : Int) : (List S273) := xs.getD i.toNat ([] : List S273)
theorem at_L7 {w : World} {A : Option Addr} {n : Nat} {xs : List (List S273)} (h : Kd.C (Kd.slice 273 k273) w A n xs) (i : Int) (h0 : 0 ≤ i) (h1 : i < n) : ∃ ad A0 c0, A = some ad ∧ w.cell? (ad.add i.toNat) = some (.slice A0 (rd_L7 xs i).length c0) ∧ (rd_L7 xs i).length ≤ c0 ∧ k273.C w A0 (rd_L7 xs i).length (rd_L7 xs i) := by
 obtain ⟨ad, c, e, _, hK, hc0⟩ := Kd.C_get h ([] : List S273) i h0 h1
 have hc : ∀ j u, c[j]? = some u → w.cell? (ad.add (i.toNat * 1 + j)) = some u := hc0
 obtain ⟨A0, c0, rfl, l0, g0⟩ := hK
 exact ⟨ad, A0, c0, e, by have hq := hc 0 _ rfl;rwa [Nat.mul_one, Nat.add_zero] at hq, l0, g0⟩

/-! #### struct type 224 -/
structure S224 where
  f0 : Int
  f1 : (List S273)
def z224 : S224 := ⟨(0 : Int), ([] : List S273)⟩
def k224 : Kd S224 := Kd.iso (Kd.pair (Kd.int .i64) (Kd.slice 273 k273)) (fun x : S224 => (x.f0, x.f1))
theorem k224_open {w : World} {x : S224} {cs : List Value} (h : k224.K w x cs) : ∃ A1 c1, cs = [.int .i64 x.f0, .slice A1 x.f1.length c1] ∧ x.f1.length ≤ c1 ∧ k273.C w A1 x.f1.length x.f1 := by
 obtain ⟨_, _, rfl, rfl, ⟨A1, c1, rfl, l1, g1⟩⟩ := h
 exact ⟨A1, c1, rfl, l1, g1⟩
theorem k224_openM {w : World} {base : Nat} {ok : Nat → Prop} {x : S224} {cs : List Value} (h : k224.M w base ok x cs) : ∃ v1, cs = [.int .i64 x.f0, v1] ∧ k273.R 273 w base ok v1 x.f1 := by
 obtain ⟨_, _, rfl, rfl, ⟨v1, rfl, g1⟩⟩ := h
 exact ⟨v1, rfl, g1⟩
theorem k224_mk (w : World) (x : S224) {A1 : Option Addr} {c1 : Nat} (l1 : x.f1.length ≤ c1) (g1 : k273.C w A1 x.f1.length x.f1) : k224.K w x [.int .i64 x.f0, .slice A1 x.f1.length c1] := ⟨[.int .i64 x.f0], [.slice A1 x.f1.length c1], rfl, rfl, ⟨A1, c1, rfl, l1, g1⟩⟩
theorem k224_mkM (w : World) (base : Nat) (ok : Nat → Prop) (x : S224) {v1 : Value} (g1 : k273.R 273 w base ok v1 x.f1) : k224.M w base ok x [.int .i64 x.f0, v1] := ⟨[.int .i64 x.f0], [v1], rfl, rfl, ⟨v1, rfl, g1⟩⟩
def rd_T224 (xs : List S224) (i : Int) : S224 := xs.getD i.toNat z224
theorem at_T224 {w : World} {A : Option Addr} {n : Nat} {xs : List S224} (h : Kd.C k224 w A n xs) (i : Int) (h0 : 0 ≤ i) (h1 : i < n) : ∃ ad A1 c1, A = some ad ∧ w.cell? (ad.add (i.toNat * 2)) = some (.int .i64 (rd_T224 xs i).f0) ∧ w.cell? ⟨(ad.add (i.toNat * 2)).block, (ad.add (i.toNat * 2)).off + 1, none⟩ = some (.slice A1 (rd_T224 xs i).f1.length c1) ∧ (rd_T224 xs i).f1.length ≤ c1 ∧ k273.C w A1 (rd_T224 xs i).f1.length (rd_T224 xs i).f1 := by
 obtain ⟨ad, c, e, _, hK, hc0⟩ := Kd.C_get h z224 i h0 h1
 have hc : ∀ j u, c[j]? = some u → w.cell? (ad.add (i.toNat * 2 + j)) = some u := hc0
 obtain ⟨A1, c1, rfl, l1, g1⟩ := k224_open hK
 exact ⟨ad, A1, c1, e, hc 0 _ rfl, by rw [← add_field _ _ 1 (by omega)];exact hc 1 _ rfl, l1, g1⟩

/-! #### struct type 161 -/
structure S161 where
  f0 : Int
  f1 : ByteArray
  f2 : ByteArray
  f3 : Int
  f4 : Int
def z161 : S161 := ⟨(0 : Int), (⟨#[]⟩ : ByteArray), (⟨#[]⟩ : ByteArray), (0 : Int), (0 : Int)⟩
def k161 : Kd S161 := Kd.iso (Kd.pair (Kd.int .i64) (Kd.pair Kd.string (Kd.pair Kd.string (Kd.pair (Kd.int .i64) (Kd.int .i64))))) (fun x : S161 => (x.f0, x.f1, x.f2, x.f3, x.f4))
theorem k161_open {w : World} {x : S161} {cs : List Value} (h : k161.K w x cs) : cs = [.int .i64 x.f0, .string x.f1, .string x.f2, .int .i64 x.f3, .int .i64 x.f4] := by
 obtain ⟨_, _, rfl, rfl, ⟨_, _, rfl, rfl, ⟨_, _, rfl, rfl, ⟨_, _, rfl, rfl, rfl⟩⟩⟩⟩ := h
 exact rfl
theorem k161_openM {w : World} {base : Nat} {ok : Nat → Prop} {x : S161} {cs : List Value} (h : k161.M w base ok x cs) : cs = [.int .i64 x.f0, .string x.f1, .string x.f2, .int .i64 x.f3, .int .i64 x.f4] := by
 obtain ⟨_, _, rfl, rfl, ⟨_, _, rfl, rfl, ⟨_, _, rfl, rfl, ⟨_, _, rfl, rfl, rfl⟩⟩⟩⟩ := h
 exact rfl
theorem k161_mk (w : World) (x : S161)  : k161.K w x [.int .i64 x.f0, .string x.f1, .string x.f2, .int .i64 x.f3, .int .i64 x.f4] := ⟨[.int .i64 x.f0], [.string x.f1, .string x.f2, .int .i64 x.f3, .int .i64 x.f4], rfl, rfl, ⟨[.string x.f1], [.string x.f2, .int .i64 x.f3, .int .i64 x.f4], rfl, rfl, ⟨[.string x.f2], [.int .i64 x.f3, .int .i64 x.f4], rfl, rfl, ⟨[.int .i64 x.f3], [.int .i64 x.f4], rfl, rfl, rfl⟩⟩⟩⟩
theorem k161_mkM (w : World) (base : Nat) (ok : Nat → Prop) (x : S161)  : k161.M w base ok x [.int .i64 x.f0, .string x.f1, .string x.f2, .int .i64 x.f3, .int .i64 x.f4] := ⟨[.int .i64 x.f0], [.string x.f1, .string x.f2, .int .i64 x.f3, .int .i64 x.f4], rfl, rfl, ⟨[.string x.f1], [.string x.f2, .int .i64 x.f3, .int .i64 x.f4], rfl, rfl, ⟨[.string x.f2], [.int .i64 x.f3, .int .i64 x.f4], rfl, rfl, ⟨[.int .i64 x.f3], [.int .i64 x.f4], rfl, rfl, rfl⟩⟩⟩⟩
def rd_T161 (xs : List S161) (i : Int) : S161 := xs.getD i.toNat z161
theorem at_T161 {w : World} {A : Option Addr} {n : Nat} {xs : List S161} (h : Kd.C k161 w A n xs) (i : Int) (h0 : 0 ≤ i) (h1 : i < n) : ∃ ad , A = some ad ∧ w.cell? (ad.add (i.toNat * 5)) = some (.int .i64 (rd_T161 xs i).f0) ∧ w.cell? ⟨(ad.add (i.toNat * 5)).block, (ad.add (i.toNat * 5)).off + 1, none⟩ = some (.string (rd_T161 xs i).f1) ∧ w.cell? ⟨(ad.add (i.toNat * 5)).block, (ad.add (i.toNat * 5)).off + 2, none⟩ = some (.string (rd_T161 xs i).f2) ∧ w.cell? ⟨(ad.add (i.toNat * 5)).block, (ad.add (i.toNat * 5)).off + 3, none⟩ = some (.int .i64 (rd_T161 xs i).f3) ∧ w.cell? ⟨(ad.add (i.toNat * 5)).block, (ad.add (i.toNat * 5)).off + 4, none⟩ = some (.int .i64 (rd_T161 xs i).f4) := by
 obtain ⟨ad, c, e, _, hK, hc0⟩ := Kd.C_get h z161 i h0 h1
 have hc : ∀ j u, c[j]? = some u → w.cell? (ad.add (i.toNat * 5 + j)) = some u := hc0
 obtain rfl := k161_open hK
 exact ⟨ad, e, hc 0 _ rfl, by rw [← add_field _ _ 1 (by omega)];exact hc 1 _ rfl, by rw [← add_field _ _ 2 (by omega)];exact hc 2 _ rfl, by rw [← add_field _ _ 3 (by omega)];exact hc 3 _ rfl, by rw [← add_field _ _ 4 (by omega)];exact hc 4 _ rfl⟩

def rd_L10 (xs : List (List S161)) (i : Int) : (List S161) := xs.getD i.toNat ([] : List S161)
theorem at_L10 {w : World} {A : Option Addr} {n : Nat} {xs : List (List S161)} (h : Kd.C (Kd.slice 161 k161) w A n xs) (i : Int) (h0 : 0 ≤ i) (h1 : i < n) : ∃ ad A0 c0, A = some ad ∧ w.cell? (ad.add i.toNat) = some (.slice A0 (rd_L10 xs i).length c0) ∧ (rd_L10 xs i).length ≤ c0 ∧ k161.C w A0 (rd_L10 xs i).length (rd_L10 xs i) := by
 obtain ⟨ad, c, e, _, hK, hc0⟩ := Kd.C_get h ([] : List S161) i h0 h1
 have hc : ∀ j u, c[j]? = some u → w.cell? (ad.add (i.toNat * 1 + j)) = some u := hc0
 obtain ⟨A0, c0, rfl, l0, g0⟩ := hK
 exact ⟨ad, A0, c0, e, by have hq := hc 0 _ rfl;rwa [Nat.mul_one, Nat.add_zero] at hq, l0, g0⟩

/-! #### struct type 228 -/
structure S228 where
  f0 : (List S161)
def z228 : S228 := ⟨([] : List S161)⟩
def k228 : Kd S228 := Kd.iso (Kd.slice 161 k161) (fun x : S228 => x.f0)
theorem k228_open {w : World} {x : S228} {cs : List Value} (h : k228.K w x cs) : ∃ A0 c0, cs = [.slice A0 x.f0.length c0] ∧ x.f0.length ≤ c0 ∧ k161.C w A0 x.f0.length x.f0 := by
 obtain ⟨A0, c0, rfl, l0, g0⟩ := h
 exact ⟨A0, c0, rfl, l0, g0⟩
theorem k228_openM {w : World} {base : Nat} {ok : Nat → Prop} {x : S228} {cs : List Value} (h : k228.M w base ok x cs) : ∃ v0, cs = [v0] ∧ k161.R 161 w base ok v0 x.f0 := by
 obtain ⟨v0, rfl, g0⟩ := h
 exact ⟨v0, rfl, g0⟩
theorem k228_mk (w : World) (x : S228) {A0 : Option Addr} {c0 : Nat} (l0 : x.f0.length ≤ c0) (g0 : k161.C w A0 x.f0.length x.f0) : k228.K w x [.slice A0 x.f0.length c0] := ⟨A0, c0, rfl, l0, g0⟩
theorem k228_mkM (w : World) (base : Nat) (ok : Nat → Prop) (x : S228) {v0 : Value} (g0 : k161.R 161 w base ok v0 x.f0) : k228.M w base ok x [v0] := ⟨v0, rfl, g0⟩
def rd_T228 (xs : List S228) (i : Int) : S228 := xs.getD i.toNat z228
theorem at_T228 {w : World} {A : Option Addr} {n : Nat} {xs : List S228} (h : Kd.C k228 w A n xs) (i : Int) (h0 : 0 ≤ i) (h1 : i < n) : ∃ ad A0 c0, A = some ad ∧ w.cell? (ad.add i.toNat) = some (.slice A0 (rd_T228 xs i).f0.length c0) ∧ (rd_T228 xs i).f0.length ≤ c0 ∧ k161.C w A0 (rd_T228 xs i).f0.length (rd_T228 xs i).f0 := by
 obtain ⟨ad, c, e, _, hK, hc0⟩ := Kd.C_get h z228 i h0 h1
 have hc : ∀ j u, c[j]? = some u → w.cell? (ad.add (i.toNat * 1 + j)) = some u := hc0
 obtain ⟨A0, c0, rfl, l0, g0⟩ := k228_open hK
 exact ⟨ad, A0, c0, e, by have hq := hc 0 _ rfl;rwa [Nat.mul_one, Nat.add_zero] at hq, l0, g0⟩

def rd_L12 (xs : List (List S228)) (i : Int) : (List S228) := xs.getD i.toNat ([] : List S228)
theorem at_L12 {w : World} {A : Option Addr} {n : Nat} {xs : List (List S228)} (h : Kd.C (Kd.slice 228 k228) w A n xs) (i : Int) (h0 : 0 ≤ i) (h1 : i < n) : ∃ ad A0 c0, A = some ad ∧ w.cell? (ad.add i.toNat) = some (.slice A0 (rd_L12 xs i).length c0) ∧ (rd_L12 xs i).length ≤ c0 ∧ k228.C w A0 (rd_L12 xs i).length (rd_L12 xs i) := by
 obtain ⟨ad, c, e, _, hK, hc0⟩ := Kd.C_get h ([] : List S228) i h0 h1
 have hc : ∀ j u, c[j]? = some u → w.cell? (ad.add (i.toNat * 1 + j)) = some u := hc0
 obtain ⟨A0, c0, rfl, l0, g0⟩ := hK
 exact ⟨ad, A0, c0, e, by have hq := hc 0 _ rfl;rwa [Nat.mul_one, Nat.add_zero] at hq, l0, g0⟩

/-! #### struct type 164 -/
structure S164 where
  f0 : S161
  f1 : (List S228)
def z164 : S164 := ⟨z161, ([] : List S228)⟩
def k164 : Kd S164 := Kd.iso (Kd.pair k161 (Kd.slice 228 k228)) (fun x : S164 => (x.f0, x.f1))
theorem k164_open {w : World} {x : S164} {cs : List Value} (h : k164.K w x cs) : ∃ A5 c5, cs = [.int .i64 x.f0.f0, .string x.f0.f1, .string x.f0.f2, .int .i64 x.f0.f3, .int .i64 x.f0.f4, .slice A5 x.f1.length c5] ∧ x.f1.length ≤ c5 ∧ k228.C w A5 x.f1.length x.f1 := by
 obtain ⟨_, _, rfl, s0, ⟨A5, c5, rfl, l5, g5⟩⟩ := h
 obtain rfl := k161_open s0
 exact ⟨A5, c5, rfl, l5, g5⟩
theorem k164_openM {w : World} {base : Nat} {ok : Nat → Prop} {x : S164} {cs : List Value} (h : k164.M w base ok x cs) : ∃ v5, cs = [.int .i64 x.f0.f0, .string x.f0.f1, .string x.f0.f2, .int .i64 x.f0.f3, .int .i64 x.f0.f4, v5] ∧ k228.R 228 w base ok v5 x.f1 := by
 obtain ⟨_, _, rfl, s0, ⟨v5, rfl, g5⟩⟩ := h
 obtain rfl := k161_openM s0
 exact ⟨v5, rfl, g5⟩
theorem k164_mk (w : World) (x : S164) {A5 : Option Addr} {c5 : Nat} (l5 : x.f1.length ≤ c5) (g5 : k228.C w A5 x.f1.length x.f1) : k164.K w x [.int .i64 x.f0.f0, .string x.f0.f1, .string x.f0.f2, .int .i64 x.f0.f3, .int .i64 x.f0.f4, .slice A5 x.f1.length c5] := ⟨[.int .i64 x.f0.f0, .string x.f0.f1, .string x.f0.f2, .int .i64 x.f0.f3, .int .i64 x.f0.f4], [.slice A5 x.f1.length c5], rfl, (k161_mk w x.f0 ), ⟨A5, c5, rfl, l5, g5⟩⟩
theorem k164_mkM (w : World) (base : Nat) (ok : Nat → Prop) (x : S164) {v5 : Value} (g5 : k228.R 228 w base ok v5 x.f1) : k164.M w base ok x [.int .i64 x.f0.f0, .string x.f0.f1, .string x.f0.f2, .int .i64 x.f0.f3, .int .i64 x.f0.f4, v5] := ⟨[.int .i64 x.f0.f0, .string x.f0.f1, .string x.f0.f2, .int .i64 x.f0.f3, .int .i64 x.f0.f4], [v5], rfl, (k161_mkM w base ok x.f0 ), ⟨v5, rfl, g5⟩⟩
def rd_T164 (xs : List S164) (i : Int) : S164 := xs.getD i.toNat z164
theorem at_T164 {w : World} {A : Option Addr} {n : Nat} {xs : List S164} (h : Kd.C k164 w A n xs) (i : Int) (h0 : 0 ≤ i) (h1 : i < n) : ∃ ad A5 c5, A = some ad ∧ w.cell? (ad.add (i.toNat * 6)) = some (.int .i64 (rd_T164 xs i).f0.f0) ∧ w.cell? ⟨(ad.add (i.toNat * 6)).block, (ad.add (i.toNat * 6)).off + 1, none⟩ = some (.string (rd_T164 xs i).f0.f1) ∧ w.cell? ⟨(ad.add (i.toNat * 6)).block, (ad.add (i.toNat * 6)).off + 2, none⟩ = some (.string (rd_T164 xs i).f0.f2) ∧ w.cell? ⟨(ad.add (i.toNat * 6)).block, (ad.add (i.toNat * 6)).off + 3, none⟩ = some (.int .i64 (rd_T164 xs i).f0.f3) ∧ w.cell? ⟨(ad.add (i.toNat * 6)).block, (ad.add (i.toNat * 6)).off + 4, none⟩ = some (.int .i64 (rd_T164 xs i).f0.f4) ∧ w.cell? ⟨(ad.add (i.toNat * 6)).block, (ad.add (i.toNat * 6)).off + 5, none⟩ = some (.slice A5 (rd_T164 xs i).f1.length c5) ∧ (rd_T164 xs i).f1.length ≤ c5 ∧ k228.C w A5 (rd_T164 xs i).f1.length (rd_T164 xs i).f1 := by
 obtain ⟨ad, c, e, _, hK, hc0⟩ := Kd.C_get h z164 i h0 h1
 have hc : ∀ j u, c[j]? = some u → w.cell? (ad.add (i.toNat * 6 + j)) = some u := hc0
 obtain ⟨A5, c5, rfl, l5, g5⟩ := k164_open hK
 exact ⟨ad, A5, c5, e, hc 0 _ rfl, by rw [← add_field _ _ 1 (by omega)];exact hc 1 _ rfl, by rw [← add_field _ _ 2 (by omega)];exact hc 2 _ rfl, by rw [← add_field _ _ 3 (by omega)];exact hc 3 _ rfl, by rw [← add_field _ _ 4 (by omega)];exact hc 4 _ rfl, by rw [← add_field _ _ 5 (by omega)];exact hc 5 _ rfl, l5, g5⟩

def rd_L14 (xs : List (List S164)) (i : Int) : (List S164) := xs.getD i.toNat ([] : List S164)
theorem at_L14 {w : World} {A : Option Addr} {n : Nat} {xs : List (List S164)} (h : Kd.C (Kd.slice 164 k164) w A n xs) (i : Int) (h0 : 0 ≤ i) (h1 : i < n) : ∃ ad A0 c0, A = some ad ∧ w.cell? (ad.add i.toNat) = some (.slice A0 (rd_L14 xs i).length c0) ∧ (rd_L14 xs i).length ≤ c0 ∧ k164.C w A0 (rd_L14 xs i).length (rd_L14 xs i) := by
 obtain ⟨ad, c, e, _, hK, hc0⟩ := Kd.C_get h ([] : List S164) i h0 h1
 have hc : ∀ j u, c[j]? = some u → w.cell? (ad.add (i.toNat * 1 + j)) = some u := hc0
 obtain ⟨A0, c0, rfl, l0, g0⟩ := hK
 exact ⟨ad, A0, c0, e, by have hq := hc 0 _ rfl;rwa [Nat.mul_one, Nat.add_zero] at hq, l0, g0⟩

/-! #### struct type 158 -/
structure S158 where
  f0 : Int
  f1 : (List S164)
def z158 : S158 := ⟨(0 : Int), ([] : List S164)⟩
def k158 : Kd S158 := Kd.iso (Kd.pair (Kd.int .i64) (Kd.slice 164 k164)) (fun x : S158 => (x.f0, x.f1))
theorem k158_open {w : World} {x : S158} {cs : List Value} (h : k158.K w x cs) : ∃ A1 c1, cs = [.int .i64 x.f0, .slice A1 x.f1.length c1] ∧ x.f1.length ≤ c1 ∧ k164.C w A1 x.f1.length x.f1 := by
 obtain ⟨_, _, rfl, rfl, ⟨A1, c1, rfl, l1, g1⟩⟩ := h
 exact ⟨A1, c1, rfl, l1, g1⟩
theorem k158_openM {w : World} {base : Nat} {ok : Nat → Prop} {x : S158} {cs : List Value} (h : k158.M w base ok x cs) : ∃ v1, cs = [.int .i64 x.f0, v1] ∧ k164.R 164 w base ok v1 x.f1 := by
 obtain ⟨_, _, rfl, rfl, ⟨v1, rfl, g1⟩⟩ := h
 exact ⟨v1, rfl, g1⟩
theorem k158_mk (w : World) (x : S158) {A1 : Option Addr} {c1 : Nat} (l1 : x.f1.length ≤ c1) (g1 : k164.C w A1 x.f1.length x.f1) : k158.K w x [.int .i64 x.f0, .slice A1 x.f1.length c1] := ⟨[.int .i64 x.f0], [.slice A1 x.f1.length c1], rfl, rfl, ⟨A1, c1, rfl, l1, g1⟩⟩
theorem k158_mkM (w : World) (base : Nat) (ok : Nat → Prop) (x : S158) {v1 : Value} (g1 : k164.R 164 w base ok v1 x.f1) : k158.M w base ok x [.int .i64 x.f0, v1] := ⟨[.int .i64 x.f0], [v1], rfl, rfl, ⟨v1, rfl, g1⟩⟩
def rd_T158 (xs : List S158) (i : Int) : S158 := xs.getD i.toNat z158
theorem at_T158 {w : World} {A : Option Addr} {n : Nat} {xs : List S158} (h : Kd.C k158 w A n xs) (i : Int) (h0 : 0 ≤ i) (h1 : i < n) : ∃ ad A1 c1, A = some ad ∧ w.cell? (ad.add (i.toNat * 2)) = some (.int .i64 (rd_T158 xs i).f0) ∧ w.cell? ⟨(ad.add (i.toNat * 2)).block, (ad.add (i.toNat * 2)).off + 1, none⟩ = some (.slice A1 (rd_T158 xs i).f1.length c1) ∧ (rd_T158 xs i).f1.length ≤ c1 ∧ k164.C w A1 (rd_T158 xs i).f1.length (rd_T158 xs i).f1 := by
 obtain ⟨ad, c, e, _, hK, hc0⟩ := Kd.C_get h z158 i h0 h1
 have hc : ∀ j u, c[j]? = some u → w.cell? (ad.add (i.toNat * 2 + j)) = some u := hc0
 obtain ⟨A1, c1, rfl, l1, g1⟩ := k158_open hK
 exact ⟨ad, A1, c1, e, hc 0 _ rfl, by rw [← add_field _ _ 1 (by omega)];exact hc 1 _ rfl, l1, g1⟩

end Go.Proofs.Ytjoanlocikagaaa.QFnExactSelectorOk
