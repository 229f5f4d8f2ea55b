/- The glyphs that impl.PlainFont puts together, and their order by rune. -/
import Derived.Test.YtbhmoodfninbjaaPlainAdd
namespace Go.Proofs.Ytbhmoodfninbjaa.QFnExactPlainFont
open Go
set_option linter.unusedVariables false
def mkG (p : Int × Int) : S34 := ⟨p.1, p.2⟩
def r300 : List Int := [32, 33, 39, 44, 46, 58, 59, 105, 106, 108, 124, 160]
def r400 : List Int := [102, 114, 116, 40, 41, 91, 93, 45]
def r900 : List Int := [77, 87, 109, 119]
def r700 : List Int := [64257, 64258]
def rawP : List (Int × Int) := (r300.map fun r => (r, 300)) ++ (r400.map fun r => (r, 400)) ++ (r900.map fun r => (r, 900)) ++ (r700.map fun r => (r, 700))
def fontP : List (Int × Int) := [(32, 300), (33, 300), (39, 300), (40, 400), (41, 400), (44, 300), (45, 400), (46, 300), (58, 300), (59, 300), (77, 900), (87, 900), (91, 400), (93, 400), (102, 400), (105, 300), (106, 300), (108, 300), (109, 900), (114, 400), (116, 400), (119, 900), (124, 300), (160, 300), (64257, 700), (64258, 700)]
def fontG : List S34 := fontP.map mkG
theorem raw_is : (((([] : List S34) ++ glyphs 300 r300) ++ glyphs 400 r400) ++ glyphs 900 r900) ++ glyphs 700 r700 = rawP.map mkG := rfl
theorem font_perm : fontG.Perm (rawP.map mkG) := List.Perm.map mkG (by decide +kernel)
theorem font_sorted : fontG.Pairwise fun a b => a.f0 ≤ b.f0 := by
  unfold fontG
  rw [List.pairwise_map]
  show fontP.Pairwise fun a b => a.1 ≤ b.1
  decide +kernel
theorem font_keys : ∀ a ∈ rawP.map mkG, ∀ b ∈ rawP.map mkG, a.f0 = b.f0 → a = b := by
  intro a ha b hb h
  obtain ⟨p, hp, rfl⟩ := List.mem_map.1 ha
  obtain ⟨q, hq, rfl⟩ := List.mem_map.1 hb
  have key : ∀ p ∈ rawP, ∀ q ∈ rawP, p.1 = q.1 → p = q := by decide +kernel
  rw [key p hp q hq h]
section
open Go.RowKit Go.Proofs.YtbhmoodfninbjaaW.PrintWords
theorem FS.below {w W W1 : World} {gz gb : Nat} {v : Value} {xs : List S34} (h : FS w W gz gb v xs) (hb : Below W.heap.size W W1) : FS w W1 gz gb v xs :=
  ⟨below_step h.bel hb, blk_below h.bz hb, blk_below h.bk hb, Kd.R_below h.row hb⟩
theorem FS.sorted {w W W1 : World} {gz gb : Nat} {v : Value} {xs ys : List S34} (h : FS w W gz gb v xs) (hg : W.grownBy W1 v.ownBlock) (hr : Kd.R k34 34 W1 w.heap.size (fun _ => True) v ys) : FS w W1 gz gb v ys :=
  ⟨h.bel.grown hg h.bel.size (fun k hk => Kd.R_base h.row k hk), blk_grown h.bz hg (Kd.R_ne h.row h.bz (by decide)), blk_grown h.bk hg (Kd.R_ne h.row h.bk (by decide)), hr⟩
end
end Go.Proofs.Ytbhmoodfninbjaa.QFnExactPlainFont
