/- Written by a program (wip/tools/own_print.py) out of the walk that the kit's printer made; turned where it fell. -/
-- PRINTED by print.py (a twelfth state) out of the translation. Not trusted: Lean checks it.
import Derived.Test.YtjoanlocikagaaaProg
import Derived.Below
import Derived.Deep.Draws
import Derived.Deep.AppendLies
import Derived.Maps.AppendAt
import Derived.OwnWalk
import Derived.Laws.BytesArg
import Derived.Laws.MakeOwn
import Derived.Laws.OwnMore
import Derived.Deep.OwnRows
import Derived.Tactics
import Derived.Lib.ConvBytes
import Derived.Laws.Slices
import Derived.WalkKit
import Derived.KernelRfl
import Derived.RowKit3
import Derived.Deep.LoopGhost
import Derived.Deep.QuietTactic
import Derived.BigQuiet
import Derived.WideLaws
import Derived.Deep.DeepCutAuto
import Derived.Deep.CutBlock
import Derived.Deep.RegionHeld3
import Derived.Laws.Rows
import Derived.Lib.AppendStr
import Derived.ArgAppend
import Derived.Laws.IdiomCopy
import Derived.OrdersHeld
import Derived.Laws.BitsLemmas
import Derived.RowKit
import Derived.Test.YtjoanlocikagaaaVWords
import Derived.Test.YtjoanlocikagaaaVLast
import Derived.Test.YtjoanlocikagaaaVTab
import Derived.Test.YtjoanlocikagaaaVFour
import Derived.Test.YtjoanlocikagaaaVQPut
import Derived.Test.YtjoanlocikagaaaVApart
import Derived.Test.YtjoanlocikagaaaVArr
import Derived.Test.YtjoanlocikagaaaVZeros
import Derived.Test.YtjoanlocikagaaaVFoot
import Derived.Test.YtjoanlocikagaaaVKept
import Derived.Test.YtjoanlocikagaaaVShare
import Derived.Test.YtjoanlocikagaaaVN
import Derived.Test.YtjoanlocikagaaaVFootNe
import Derived.Test.YtjoanlocikagaaaVAt
import Derived.Test.YtjoanlocikagaaaVEqStruct
import Derived.Test.YtjoanlocikagaaaVRepsOne
import Derived.Test.YtjoanlocikagaaaVInv
import Derived.Test.YtjoanlocikagaaaVInvWords
import Derived.Test.YtjoanlocikagaaaVGuard
import Derived.Test.YtjoanlocikagaaaVNEv
import Derived.Test.YtjoanlocikagaaaVMore
namespace Go.Proofs.Ytjoanlocikagaaa.QFnExactTextOf
open Go.RowKit Go.Proofs.YtjoanlocikagaaaV.PrintWords Go.Proofs.YtjoanlocikagaaaV.PrintLast Go.Proofs.YtjoanlocikagaaaV.PrintMore
attribute [local go_sem] max2_int min2_int max_two min_two max_three min_three max_four min_four   -- for this text's walks alone
set_option linter.unusedVariables false
set_option linter.unusedSimpArgs false



def errW : Option Int → Value
  | none => .nilIface
  | some c => .iface 0 (.int .i64 c)
theorem errW_none : errW none = .nilIface := rfl
theorem errW_some (c : Int) : errW (some c) = .iface 0 (.int .i64 c) := rfl

theorem info3 : (Try.prog.info? 3).map (fun i => (i.zero, i.size, i.bytes)) = some (some (.int .i64 0), 1, 8) := by kernel_rfl
theorem info5 : (Try.prog.info? 5).map (fun i => (i.zero, i.size, i.bytes)) = some (some (.int .u8 0), 1, 1) := by kernel_rfl
theorem info134 : (Try.prog.info? 134).map (fun i => (i.zero, i.size, i.bytes)) = some (some (.agg #[(.int .i64 0), (.int .i64 0), (.string ⟨#[]⟩), (.slice none 0 0), (.string ⟨#[]⟩), (.int .i64 0)]), 6, 80) := by kernel_rfl
theorem info143 : (Try.prog.info? 143).map (fun i => (i.zero, i.size, i.bytes)) = some (some (.agg #[(.string ⟨#[]⟩), (.string ⟨#[]⟩)]), 2, 32) := by kernel_rfl
-- the values' own types
/-! #### struct type 251 -/
structure S251 where
  f0 : ByteArray
  f1 : ByteArray
def z251 : S251 := ⟨(⟨#[]⟩ : ByteArray), (⟨#[]⟩ : ByteArray)⟩
def k251 : Kd S251 := Kd.iso (Kd.pair Kd.string Kd.string) (fun x : S251 => (x.f0, x.f1))
theorem k251_open {w : World} {x : S251} {cs : List Value} (h : k251.K w x cs) : cs = [.string x.f0, .string x.f1] := by
  obtain ⟨_, _, rfl, rfl, rfl⟩ := h
  exact rfl
theorem k251_openM {w : World} {base : Nat} {ok : Nat → Prop} {x : S251} {cs : List Value} (h : k251.M w base ok x cs) : cs = [.string x.f0, .string x.f1] := by
  obtain ⟨_, _, rfl, rfl, rfl⟩ := h
  exact rfl
theorem k251_mk (w : World) (x : S251)  : k251.K w x [.string x.f0, .string x.f1] := ⟨[.string x.f0], [.string x.f1], rfl, rfl, rfl⟩
theorem k251_mkM (w : World) (base : Nat) (ok : Nat → Prop) (x : S251)  : k251.M w base ok x [.string x.f0, .string x.f1] := ⟨[.string x.f0], [.string x.f1], rfl, rfl, rfl⟩
def rd_T251 (xs : List S251) (i : Int) : S251 := xs.getD i.toNat z251
theorem at_T251 {w : World} {A : Option Addr} {n : Nat} {xs : List S251} (h : Kd.C k251 w A n xs) (i : Int) (h0 : 0 ≤ i) (h1 : i < n) : ∃ ad , A = some ad ∧ w.cell? (ad.add (i.toNat * 2)) = some (.string (rd_T251 xs i).f0) ∧ w.cell? ⟨(ad.add (i.toNat * 2)).block, (ad.add (i.toNat * 2)).off + 1, none⟩ = some (.string (rd_T251 xs i).f1) := by
  obtain ⟨ad, c, e, _, hK, hc0⟩ := Kd.C_get h z251 i h0 h1
  have hc : ∀ j u, c[j]? = some u → w.cell? (ad.add (i.toNat * 2 + j)) = some u := hc0
  obtain rfl := k251_open hK
  exact ⟨ad, e, hc 0 _ rfl, by rw [← add_field _ _ 1 (by omega)]; exact hc 1 _ rfl⟩

def rd_L3 (xs : List (List S251)) (i : Int) : (List S251) := xs.getD i.toNat ([] : List S251)
theorem at_L3 {w : World} {A : Option Addr} {n : Nat} {xs : List (List S251)} (h : Kd.C (Kd.slice 251 k251) w A n xs) (i : Int) (h0 : 0 ≤ i) (h1 : i < n) : ∃ ad A0 c0, A = some ad ∧ w.cell? (ad.add i.toNat) = some (.slice A0 (rd_L3 xs i).length c0) ∧ (rd_L3 xs i).length ≤ c0 ∧ k251.C w A0 (rd_L3 xs i).length (rd_L3 xs i) := by
  obtain ⟨ad, c, e, _, hK, hc0⟩ := Kd.C_get h ([] : List S251) i h0 h1
  have hc : ∀ j u, c[j]? = some u → w.cell? (ad.add (i.toNat * 1 + j)) = some u := hc0
  obtain ⟨A0, c0, rfl, l0, g0⟩ := hK
  exact ⟨ad, A0, c0, e, by have hq := hc 0 _ rfl; rwa [Nat.mul_one, Nat.add_zero] at hq, l0, g0⟩

/-! #### struct type 193 -/
structure S193 where
  f0 : Int
  f1 : Int
  f2 : ByteArray
  f3 : (List S251)
  f4 : ByteArray
  f5 : Int
def z193 : S193 := ⟨(0 : Int), (0 : Int), (⟨#[]⟩ : ByteArray), ([] : List S251), (⟨#[]⟩ : ByteArray), (0 : Int)⟩
def k193 : Kd S193 := Kd.iso (Kd.pair (Kd.int .i64) (Kd.pair (Kd.int .i64) (Kd.pair Kd.string (Kd.pair (Kd.slice 251 k251) (Kd.pair Kd.string (Kd.int .i64)))))) (fun x : S193 => (x.f0, x.f1, x.f2, x.f3, x.f4, x.f5))
theorem k193_open {w : World} {x : S193} {cs : List Value} (h : k193.K w x cs) : ∃ A3 c3, cs = [.int .i64 x.f0, .int .i64 x.f1, .string x.f2, .slice A3 x.f3.length c3, .string x.f4, .int .i64 x.f5] ∧ x.f3.length ≤ c3 ∧ k251.C w A3 x.f3.length x.f3 := by
  obtain ⟨_, _, rfl, rfl, ⟨_, _, rfl, rfl, ⟨_, _, rfl, rfl, ⟨_, _, rfl, ⟨A3, c3, rfl, l3, g3⟩, ⟨_, _, rfl, rfl, rfl⟩⟩⟩⟩⟩ := h
  exact ⟨A3, c3, rfl, l3, g3⟩
theorem k193_openM {w : World} {base : Nat} {ok : Nat → Prop} {x : S193} {cs : List Value} (h : k193.M w base ok x cs) : ∃ v3, cs = [.int .i64 x.f0, .int .i64 x.f1, .string x.f2, v3, .string x.f4, .int .i64 x.f5] ∧ k251.R 251 w base ok v3 x.f3 := by
  obtain ⟨_, _, rfl, rfl, ⟨_, _, rfl, rfl, ⟨_, _, rfl, rfl, ⟨_, _, rfl, ⟨v3, rfl, g3⟩, ⟨_, _, rfl, rfl, rfl⟩⟩⟩⟩⟩ := h
  exact ⟨v3, rfl, g3⟩
theorem k193_mk (w : World) (x : S193) {A3 : Option Addr} {c3 : Nat} (l3 : x.f3.length ≤ c3) (g3 : k251.C w A3 x.f3.length x.f3) : k193.K w x [.int .i64 x.f0, .int .i64 x.f1, .string x.f2, .slice A3 x.f3.length c3, .string x.f4, .int .i64 x.f5] := ⟨[.int .i64 x.f0], [.int .i64 x.f1, .string x.f2, .slice A3 x.f3.length c3, .string x.f4, .int .i64 x.f5], rfl, rfl, ⟨[.int .i64 x.f1], [.string x.f2, .slice A3 x.f3.length c3, .string x.f4, .int .i64 x.f5], rfl, rfl, ⟨[.string x.f2], [.slice A3 x.f3.length c3, .string x.f4, .int .i64 x.f5], rfl, rfl, ⟨[.slice A3 x.f3.length c3], [.string x.f4, .int .i64 x.f5], rfl, ⟨A3, c3, rfl, l3, g3⟩, ⟨[.string x.f4], [.int .i64 x.f5], rfl, rfl, rfl⟩⟩⟩⟩⟩
theorem k193_mkM (w : World) (base : Nat) (ok : Nat → Prop) (x : S193) {v3 : Value} (g3 : k251.R 251 w base ok v3 x.f3) : k193.M w base ok x [.int .i64 x.f0, .int .i64 x.f1, .string x.f2, v3, .string x.f4, .int .i64 x.f5] := ⟨[.int .i64 x.f0], [.int .i64 x.f1, .string x.f2, v3, .string x.f4, .int .i64 x.f5], rfl, rfl, ⟨[.int .i64 x.f1], [.string x.f2, v3, .string x.f4, .int .i64 x.f5], rfl, rfl, ⟨[.string x.f2], [v3, .string x.f4, .int .i64 x.f5], rfl, rfl, ⟨[v3], [.string x.f4, .int .i64 x.f5], rfl, ⟨v3, rfl, g3⟩, ⟨[.string x.f4], [.int .i64 x.f5], rfl, rfl, rfl⟩⟩⟩⟩⟩
def rd_T193 (xs : List S193) (i : Int) : S193 := xs.getD i.toNat z193
theorem at_T193 {w : World} {A : Option Addr} {n : Nat} {xs : List S193} (h : Kd.C k193 w A n xs) (i : Int) (h0 : 0 ≤ i) (h1 : i < n) : ∃ ad A3 c3, A = some ad ∧ w.cell? (ad.add (i.toNat * 6)) = some (.int .i64 (rd_T193 xs i).f0) ∧ w.cell? ⟨(ad.add (i.toNat * 6)).block, (ad.add (i.toNat * 6)).off + 1, none⟩ = some (.int .i64 (rd_T193 xs i).f1) ∧ w.cell? ⟨(ad.add (i.toNat * 6)).block, (ad.add (i.toNat * 6)).off + 2, none⟩ = some (.string (rd_T193 xs i).f2) ∧ w.cell? ⟨(ad.add (i.toNat * 6)).block, (ad.add (i.toNat * 6)).off + 3, none⟩ = some (.slice A3 (rd_T193 xs i).f3.length c3) ∧ w.cell? ⟨(ad.add (i.toNat * 6)).block, (ad.add (i.toNat * 6)).off + 4, none⟩ = some (.string (rd_T193 xs i).f4) ∧ w.cell? ⟨(ad.add (i.toNat * 6)).block, (ad.add (i.toNat * 6)).off + 5, none⟩ = some (.int .i64 (rd_T193 xs i).f5) ∧ (rd_T193 xs i).f3.length ≤ c3 ∧ k251.C w A3 (rd_T193 xs i).f3.length (rd_T193 xs i).f3 := by
  obtain ⟨ad, c, e, _, hK, hc0⟩ := Kd.C_get h z193 i h0 h1
  have hc : ∀ j u, c[j]? = some u → w.cell? (ad.add (i.toNat * 6 + j)) = some u := hc0
  obtain ⟨A3, c3, rfl, l3, g3⟩ := k193_open hK
  exact ⟨ad, A3, c3, e, hc 0 _ rfl, by rw [← add_field _ _ 1 (by omega)]; exact hc 1 _ rfl, by rw [← add_field _ _ 2 (by omega)]; exact hc 2 _ rfl, by rw [← add_field _ _ 3 (by omega)]; exact hc 3 _ rfl, by rw [← add_field _ _ 4 (by omega)]; exact hc 4 _ rfl, by rw [← add_field _ _ 5 (by omega)]; exact hc 5 _ rfl, l3, g3⟩

/-! #### struct type 143 -/
structure S143 where
  f0 : ByteArray
  f1 : ByteArray
def z143 : S143 := ⟨(⟨#[]⟩ : ByteArray), (⟨#[]⟩ : ByteArray)⟩
def k143 : Kd S143 := Kd.iso (Kd.pair Kd.string Kd.string) (fun x : S143 => (x.f0, x.f1))
theorem k143_open {w : World} {x : S143} {cs : List Value} (h : k143.K w x cs) : cs = [.string x.f0, .string x.f1] := by
  obtain ⟨_, _, rfl, rfl, rfl⟩ := h
  exact rfl
theorem k143_openM {w : World} {base : Nat} {ok : Nat → Prop} {x : S143} {cs : List Value} (h : k143.M w base ok x cs) : cs = [.string x.f0, .string x.f1] := by
  obtain ⟨_, _, rfl, rfl, rfl⟩ := h
  exact rfl
theorem k143_mk (w : World) (x : S143)  : k143.K w x [.string x.f0, .string x.f1] := ⟨[.string x.f0], [.string x.f1], rfl, rfl, rfl⟩
theorem k143_mkM (w : World) (base : Nat) (ok : Nat → Prop) (x : S143)  : k143.M w base ok x [.string x.f0, .string x.f1] := ⟨[.string x.f0], [.string x.f1], rfl, rfl, rfl⟩
def rd_T143 (xs : List S143) (i : Int) : S143 := xs.getD i.toNat z143
theorem at_T143 {w : World} {A : Option Addr} {n : Nat} {xs : List S143} (h : Kd.C k143 w A n xs) (i : Int) (h0 : 0 ≤ i) (h1 : i < n) : ∃ ad , A = some ad ∧ w.cell? (ad.add (i.toNat * 2)) = some (.string (rd_T143 xs i).f0) ∧ w.cell? ⟨(ad.add (i.toNat * 2)).block, (ad.add (i.toNat * 2)).off + 1, none⟩ = some (.string (rd_T143 xs i).f1) := by
  obtain ⟨ad, c, e, _, hK, hc0⟩ := Kd.C_get h z143 i h0 h1
  have hc : ∀ j u, c[j]? = some u → w.cell? (ad.add (i.toNat * 2 + j)) = some u := hc0
  obtain rfl := k143_open hK
  exact ⟨ad, e, hc 0 _ rfl, by rw [← add_field _ _ 1 (by omega)]; exact hc 1 _ rfl⟩

def rd_L6 (xs : List (List S143)) (i : Int) : (List S143) := xs.getD i.toNat ([] : List S143)
theorem at_L6 {w : World} {A : Option Addr} {n : Nat} {xs : List (List S143)} (h : Kd.C (Kd.slice 143 k143) w A n xs) (i : Int) (h0 : 0 ≤ i) (h1 : i < n) : ∃ ad A0 c0, A = some ad ∧ w.cell? (ad.add i.toNat) = some (.slice A0 (rd_L6 xs i).length c0) ∧ (rd_L6 xs i).length ≤ c0 ∧ k143.C w A0 (rd_L6 xs i).length (rd_L6 xs i) := by
  obtain ⟨ad, c, e, _, hK, hc0⟩ := Kd.C_get h ([] : List S143) i h0 h1
  have hc : ∀ j u, c[j]? = some u → w.cell? (ad.add (i.toNat * 1 + j)) = some u := hc0
  obtain ⟨A0, c0, rfl, l0, g0⟩ := hK
  exact ⟨ad, A0, c0, e, by have hq := hc 0 _ rfl; rwa [Nat.mul_one, Nat.add_zero] at hq, l0, g0⟩

/-! #### struct type 134 -/
structure S134 where
  f0 : Int
  f1 : Int
  f2 : ByteArray
  f3 : (List S143)
  f4 : ByteArray
  f5 : Int
def z134 : S134 := ⟨(0 : Int), (0 : Int), (⟨#[]⟩ : ByteArray), ([] : List S143), (⟨#[]⟩ : ByteArray), (0 : Int)⟩
def k134 : Kd S134 := Kd.iso (Kd.pair (Kd.int .i64) (Kd.pair (Kd.int .i64) (Kd.pair Kd.string (Kd.pair (Kd.slice 143 k143) (Kd.pair Kd.string (Kd.int .i64)))))) (fun x : S134 => (x.f0, x.f1, x.f2, x.f3, x.f4, x.f5))
theorem k134_open {w : World} {x : S134} {cs : List Value} (h : k134.K w x cs) : ∃ A3 c3, cs = [.int .i64 x.f0, .int .i64 x.f1, .string x.f2, .slice A3 x.f3.length c3, .string x.f4, .int .i64 x.f5] ∧ x.f3.length ≤ c3 ∧ k143.C w A3 x.f3.length x.f3 := by
  obtain ⟨_, _, rfl, rfl, ⟨_, _, rfl, rfl, ⟨_, _, rfl, rfl, ⟨_, _, rfl, ⟨A3, c3, rfl, l3, g3⟩, ⟨_, _, rfl, rfl, rfl⟩⟩⟩⟩⟩ := h
  exact ⟨A3, c3, rfl, l3, g3⟩
theorem k134_openM {w : World} {base : Nat} {ok : Nat → Prop} {x : S134} {cs : List Value} (h : k134.M w base ok x cs) : ∃ v3, cs = [.int .i64 x.f0, .int .i64 x.f1, .string x.f2, v3, .string x.f4, .int .i64 x.f5] ∧ k143.R 143 w base ok v3 x.f3 := by
  obtain ⟨_, _, rfl, rfl, ⟨_, _, rfl, rfl, ⟨_, _, rfl, rfl, ⟨_, _, rfl, ⟨v3, rfl, g3⟩, ⟨_, _, rfl, rfl, rfl⟩⟩⟩⟩⟩ := h
  exact ⟨v3, rfl, g3⟩
theorem k134_mk (w : World) (x : S134) {A3 : Option Addr} {c3 : Nat} (l3 : x.f3.length ≤ c3) (g3 : k143.C w A3 x.f3.length x.f3) : k134.K w x [.int .i64 x.f0, .int .i64 x.f1, .string x.f2, .slice A3 x.f3.length c3, .string x.f4, .int .i64 x.f5] := ⟨[.int .i64 x.f0], [.int .i64 x.f1, .string x.f2, .slice A3 x.f3.length c3, .string x.f4, .int .i64 x.f5], rfl, rfl, ⟨[.int .i64 x.f1], [.string x.f2, .slice A3 x.f3.length c3, .string x.f4, .int .i64 x.f5], rfl, rfl, ⟨[.string x.f2], [.slice A3 x.f3.length c3, .string x.f4, .int .i64 x.f5], rfl, rfl, ⟨[.slice A3 x.f3.length c3], [.string x.f4, .int .i64 x.f5], rfl, ⟨A3, c3, rfl, l3, g3⟩, ⟨[.string x.f4], [.int .i64 x.f5], rfl, rfl, rfl⟩⟩⟩⟩⟩
theorem k134_mkM (w : World) (base : Nat) (ok : Nat → Prop) (x : S134) {v3 : Value} (g3 : k143.R 143 w base ok v3 x.f3) : k134.M w base ok x [.int .i64 x.f0, .int .i64 x.f1, .string x.f2, v3, .string x.f4, .int .i64 x.f5] := ⟨[.int .i64 x.f0], [.int .i64 x.f1, .string x.f2, v3, .string x.f4, .int .i64 x.f5], rfl, rfl, ⟨[.int .i64 x.f1], [.string x.f2, v3, .string x.f4, .int .i64 x.f5], rfl, rfl, ⟨[.string x.f2], [v3, .string x.f4, .int .i64 x.f5], rfl, rfl, ⟨[v3], [.string x.f4, .int .i64 x.f5], rfl, ⟨v3, rfl, g3⟩, ⟨[.string x.f4], [.int .i64 x.f5], rfl, rfl, rfl⟩⟩⟩⟩⟩
def rd_T134 (xs : List S134) (i : Int) : S134 := xs.getD i.toNat z134
theorem at_T134 {w : World} {A : Option Addr} {n : Nat} {xs : List S134} (h : Kd.C k134 w A n xs) (i : Int) (h0 : 0 ≤ i) (h1 : i < n) : ∃ ad A3 c3, A = some ad ∧ w.cell? (ad.add (i.toNat * 6)) = some (.int .i64 (rd_T134 xs i).f0) ∧ w.cell? ⟨(ad.add (i.toNat * 6)).block, (ad.add (i.toNat * 6)).off + 1, none⟩ = some (.int .i64 (rd_T134 xs i).f1) ∧ w.cell? ⟨(ad.add (i.toNat * 6)).block, (ad.add (i.toNat * 6)).off + 2, none⟩ = some (.string (rd_T134 xs i).f2) ∧ w.cell? ⟨(ad.add (i.toNat * 6)).block, (ad.add (i.toNat * 6)).off + 3, none⟩ = some (.slice A3 (rd_T134 xs i).f3.length c3) ∧ w.cell? ⟨(ad.add (i.toNat * 6)).block, (ad.add (i.toNat * 6)).off + 4, none⟩ = some (.string (rd_T134 xs i).f4) ∧ w.cell? ⟨(ad.add (i.toNat * 6)).block, (ad.add (i.toNat * 6)).off + 5, none⟩ = some (.int .i64 (rd_T134 xs i).f5) ∧ (rd_T134 xs i).f3.length ≤ c3 ∧ k143.C w A3 (rd_T134 xs i).f3.length (rd_T134 xs i).f3 := by
  obtain ⟨ad, c, e, _, hK, hc0⟩ := Kd.C_get h z134 i h0 h1
  have hc : ∀ j u, c[j]? = some u → w.cell? (ad.add (i.toNat * 6 + j)) = some u := hc0
  obtain ⟨A3, c3, rfl, l3, g3⟩ := k134_open hK
  exact ⟨ad, A3, c3, e, hc 0 _ rfl, by rw [← add_field _ _ 1 (by omega)]; exact hc 1 _ rfl, by rw [← add_field _ _ 2 (by omega)]; exact hc 2 _ rfl, by rw [← add_field _ _ 3 (by omega)]; exact hc 3 _ rfl, by rw [← add_field _ _ 4 (by omega)]; exact hc 4 _ rfl, by rw [← add_field _ _ 5 (by omega)]; exact hc 5 _ rfl, l3, g3⟩

end Go.Proofs.Ytjoanlocikagaaa.QFnExactTextOf
