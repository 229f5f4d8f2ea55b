/- slices.SortFunc at glyphs, by their runes: the closure's contract; what the sort gives a row of the call's own. -/
import Derived.Test.YtbhmoodfninbjaaSortRow
import Derived.Test.YtbhmoodfninbjaaGlyphs
import Derived.Test.YtbhmoodfninbjaaSortLay
namespace Go.Proofs.Ytbhmoodfninbjaa.QFnExactPlainFont
open Go Go.RowKit Go.Sort Go.Shelf Go.Proofs.YtbhmoodfninbjaaW.PrintWords Go.Proofs.YtbhmoodfninbjaaW.PrintLast Go.Proofs.YtbhmoodfninbjaaW.PrintMore
set_option linter.unusedVariables false
set_option linter.unusedSimpArgs false
def cmpI (a b : Int) : Int := if a < b then -1 else if b < a then 1 else 0
theorem nan_calls (a : Int) (W : World) : Calls Try.prog 25 #[.int .i64 a] W fun e w' => e = .returned (.bool false) ∧ w' = W := by
  have ha : (a != a) = false := by simp
  go_enter Try.func25, Try.ntmps25
  go_wp2
  go_ret
  exact ⟨rfl, rfl⟩
set_option maxHeartbeats 4000000 in
theorem compare_calls (a b : Int) (W : World) : Calls Try.prog 13 #[.int .i64 a, .int .i64 b] W fun e w' => e = .returned (.int .i64 (cmpI a b)) ∧ w' = W := by
  have hn := fun x W' => nan_calls x W'
  obtain ⟨r, hr⟩ : ∃ r, r = cmpI a b := ⟨_, rfl⟩
  rw [← hr]
  unfold cmpI at hr
  by_cases c : a < b
  · rw [if_pos c] at hr
    have d1 : decide (a < b) = true := decide_eq_true c
    have HR := Aside0.mk hr
    clear hr c
    go_enter Try.func13, Try.ntmps13
    go_wp2_with (go_at_call 25; refine (hn _ _).mono ?_; rintro e w' ⟨rfl, rfl⟩)
    go_ret
    exact ⟨by rw [HR.out]; rfl, rfl⟩
  · rw [if_neg c] at hr
    have d1 : decide (a < b) = false := decide_eq_false c
    by_cases c2 : b < a
    · rw [if_pos c2] at hr
      have d2 : decide (b < a) = true := decide_eq_true c2
      have HR := Aside0.mk hr
      clear hr c c2
      go_enter Try.func13, Try.ntmps13
      go_wp2_with (go_at_call 25; refine (hn _ _).mono ?_; rintro e w' ⟨rfl, rfl⟩)
      go_ret
      exact ⟨by rw [HR.out]; rfl, rfl⟩
    · rw [if_neg c2] at hr
      have d2 : decide (b < a) = false := decide_eq_false c2
      have HR := Aside0.mk hr
      clear hr c c2
      go_enter Try.func13, Try.ntmps13
      go_wp2_with (go_at_call 25; refine (hn _ _).mono ?_; rintro e w' ⟨rfl, rfl⟩)
      go_ret
      exact ⟨by rw [HR.out]; rfl, rfl⟩
set_option maxHeartbeats 4000000 in
theorem by_rune (x y : S34) (W : World) : Calls Try.prog 12 #[.agg #[.int .i64 x.f0, .int .i64 x.f1], .agg #[.int .i64 y.f0, .int .i64 y.f1]] W fun e w' => e = .returned (.int .i64 (cmpI x.f0 y.f0)) ∧ ∃ q os', w' = grow (W.drewN q) os' := by
  have hcon := fun W' => compare_calls x.f0 y.f0 W'
  generalize cmpI x.f0 y.f0 = r at hcon ⊢
  obtain ⟨x0, x1⟩ := x
  obtain ⟨y0, y1⟩ := y
  simp only at hcon ⊢
  go_enter Try.func12, Try.ntmps12
  go_wp2_with (go_at_call 13; refine (hcon _).mono ?_; rintro e w' ⟨rfl, rfl⟩)
  go_ret
  exact ⟨rfl, 0, _, by rw [alloc_eq_grow, alloc_eq_grow, grow_grow]; rfl⟩
def ltR (x y : S34) : Bool := decide (x.f0 < y.f0)
theorem lt_of_cmp : ltOf (fun x y : S34 => cmpI x.f0 y.f0) = ltR := by
  funext x y
  unfold ltOf ltR cmpI
  by_cases h1 : x.f0 < y.f0
  · simp [h1]
  · by_cases h2 : y.f0 < x.f0 <;> simp [h1, h2]
theorem swoR : SWO (ltOf fun x y : S34 => cmpI x.f0 y.f0) := by
  rw [lt_of_cmp]
  exact
  { irrefl := fun x => by unfold ltR; simp
    trans := fun x y z h1 h2 => by unfold ltR at *; simp at *; omega
    ntrans := fun x y z h1 h2 => by unfold ltR at *; simp at *; omega }
/-- A row whose runes are all unlike has one order. -/
theorem one_order {xs zs : List S34} {d : Array S34} (hp : PermIn 0 xs.toArray.size xs.toArray d) (hs : SortedIn ltR 0 xs.toArray.size d) (hz : zs.Perm xs) (hsz : zs.Pairwise fun a b => a.f0 ≤ b.f0) (hu : ∀ a ∈ xs, ∀ b ∈ xs, a.f0 = b.f0 → a = b) : d = zs.toArray := by
  obtain ⟨h1, _, h3⟩ := hp
  have hn : xs.toArray.size = xs.length := by simp
  rw [hn] at h3 hs
  have e1 : d.extract 0 xs.length = d := by rw [← hn, ← h1]; simp
  have e2 : xs.toArray.extract 0 xs.length = xs.toArray := by rw [← hn]; simp
  rw [e1, e2] at h3
  have h3 : d.toList.Perm xs := by simpa using h3
  have hl : d.size = xs.length := by rw [h1, hn]
  have hd : d.toList.Pairwise fun a b => a.f0 ≤ b.f0 := by
    rw [List.pairwise_iff_getElem]
    intro i j hi hj hij
    have hi' : i < d.size := by simpa using hi
    have hj' : j < d.size := by simpa using hj
    have := hs i j (Nat.zero_le _) hij (by omega)
    rw [getBang hj', getBang hi'] at this
    unfold ltR at this
    have := of_decide_eq_false this
    simp only [Array.getElem_toList]
    omega
  have he : d.toList = zs := by
    refine List.Perm.eq_of_pairwise ?_ hd hsz (h3.trans hz.symm)
    intro a b ha hb h1 h2
    exact hu a ((h3.mem_iff).1 ha) b ((hz.mem_iff).1 hb) (by omega)
  rw [← he]
set_option maxHeartbeats 2000000 in
theorem sort_calls (w W : World) (xs zs : List S34) (v : Value) (hR : k34.R 34 W w.heap.size (fun _ => True) v xs) (h0 : 0 < xs.length) (hsz : xs.length ≤ 1000) (hz : zs.Perm xs) (hzs : zs.Pairwise fun a b => a.f0 ≤ b.f0) (hu : ∀ a ∈ xs, ∀ b ∈ xs, a.f0 = b.f0 → a = b) :
    Calls Try.prog 11 #[v, .func (.func 12) #[] #[]] W fun e w' => e = .returned (.tuple #[]) ∧ k34.R 34 w' w.heap.size (fun _ => True) v zs ∧ W.grownBy w' v.ownBlock := by
  obtain ⟨g, cap, rfl, hb, hg, cells, hc⟩ := Kd.R_form hR h0
  have hl : zs.length = xs.length := hz.length_eq
  have eg : ∀ args w, (callFunc 12 args).run Try.prog w = .ok (.enter 12 args) w := enters_of Try.func12 (by kernel_rfl) rfl
  have hcmp : CmpLays Try.prog 12 #[] encG 2 (fun x y => cmpI x.f0 y.f0) g 0 xs.toArray.size W := fun m os dk _ x y => by
    have := by_rune x y (sortWorldK encG 2 W g 0 m dk os)
    exact this
  have hcon := AnyQ.slices_SortFunc sortGl 2 Try.isAgg34 Try.sizeOf34 encG (fun _ => rfl) (fun x v hv => by simp [encG] at hv; rcases hv with rfl | rfl <;> rfl) (fun x y => cmpI x.f0 y.f0) swoR 12 #[] g 0 cap xs.toArray W eg hcmp (sorted_row hR rfl 0 #[]).1 hg (by simp; omega)
  have hcon : Calls Try.prog 11 #[.slice (some ⟨g, 0, none⟩) xs.toArray.size cap, .func (.func 12) #[] #[]] W _ := hcon
  have e : xs.toArray.size = xs.length := by simp
  rw [e] at hcon
  refine hcon.mono ?_
  rintro e w' ⟨rfl, d', n, os, hp, hs, rfl⟩
  rw [lt_of_cmp] at hs
  have hd := one_order (by rw [show xs.toArray.size = xs.length from by simp]; exact hp) (by rw [show xs.toArray.size = xs.length from by simp]; exact hs) hz hzs hu
  subst hd
  have := sorted_row hR hl n os
  exact ⟨rfl, this.2.1, this.2.2⟩
end Go.Proofs.Ytbhmoodfninbjaa.QFnExactPlainFont
