/- The two lists of pairs: what the replacers' tables are. impl's two escapes, walked. -/
import Derived.Test.YtkhgmjmfgbpenaaEscW
namespace Go.Proofs.Ytkhgmjmfgbpenaa.Trie
open Go Go.RowKit Go.Proofs.YtkhgmjmfgbpenaaV.PrintWords Go.Proofs.YtkhgmjmfgbpenaaV.PrintLast Go.Proofs.YtkhgmjmfgbpenaaV.PrintMore Go.Proofs.Ytkhgmjmfgbpenaa.Once
set_option linter.unusedVariables false
set_option linter.unusedSimpArgs false

def lV : List ByteArray := [⟨#[38]⟩, ⟨#[38, 97, 109, 112, 59]⟩, ⟨#[194, 160]⟩, ⟨#[38, 110, 98, 115, 112, 59]⟩, ⟨#[34]⟩, ⟨#[38, 113, 117, 111, 116, 59]⟩]
def pV : Ps := [(some 38, ⟨#[38, 97, 109, 112, 59]⟩), (none, ⟨#[38, 110, 98, 115, 112, 59]⟩), (some 34, ⟨#[38, 113, 117, 111, 116, 59]⟩)]
def placeV (c : Nat) : Int := if c = 34 then 0 else if c = 38 then 1 else if c = 160 then 2 else if c = 194 then 3 else 4
theorem mapV : (numM (mkA lV 3) ((4 : Nat) : Int) 256).1 = (List.range 256).map placeV := by decide +kernel
theorem sumTV : sumT (mkA lV 3) 256 = ((4 : Nat) : Int) := by decide +kernel
theorem map_at {place : Nat → Int} {c : Nat} (h : c < 256) : ((List.range 256).map place)[c]? = some (place c) := by
  rw [List.getElem?_map, List.getElem?_range h]
  rfl
set_option maxRecDepth 100000 in
theorem placesV : ∀ M, M = (numM (mkA lV 3) ((4 : Nat) : Int) 256).1 → Places M 4 := by
  intro M hM
  rw [hM, mapV]
  constructor
  · intro c hc
    rw [map_at hc]
    unfold placeV
    repeat' split
    · exact ⟨0, by omega, rfl⟩
    · exact ⟨1, by omega, rfl⟩
    · exact ⟨2, by omega, rfl⟩
    · exact ⟨3, by omega, rfl⟩
    · exact ⟨4, by omega, rfl⟩
  · intro c c' m hm h1 h2
    have b1 : c < 256 := by have := (List.getElem?_eq_some_iff.1 h1).1; simpa using this
    have b2 : c' < 256 := by have := (List.getElem?_eq_some_iff.1 h2).1; simpa using this
    rw [map_at b1] at h1
    rw [map_at b2] at h2
    injection h1 with h1
    injection h2 with h2
    unfold placeV at h1 h2
    repeat' split at h1
    all_goals repeat' split at h2
    all_goals omega
set_option maxRecDepth 100000 in
theorem pairsV : ∀ M, M = (numM (mkA lV 3) ((4 : Nat) : Int) 256).1 → Pairs lV M 4 3 pV := by
  intro M hM
  rw [hM, mapV]
  refine ⟨rfl, rfl, by omega, ?_, ?_, ?_, ?_⟩
  · intro j p hj
    match j, hj with
    | 0, hj => cases hj; rfl
    | 1, hj => cases hj; rfl
    | 2, hj => cases hj; rfl
    | k + 3, hj => simp [pV] at hj
  · intro j p hj
    match j, hj with
    | 0, hj => cases hj; rfl
    | 1, hj => cases hj; rfl
    | 2, hj => cases hj; rfl
    | k + 3, hj => simp [pV] at hj
  · intro j p hj
    match j, hj with
    | 0, hj => cases hj; exact ⟨1, by omega, map_at (c := 38) (by omega)⟩
    | 1, hj => cases hj; exact ⟨3, by omega, map_at (c := 194) (by omega)⟩
    | 2, hj => cases hj; exact ⟨0, by omega, map_at (c := 34) (by omega)⟩
    | k + 3, hj => simp [pV] at hj
  · have key : ∀ j p, pV[j]? = some p → ((List.range 256).map placeV)[lead p.1]? = some (([1, 3, 0] : List Int).getD j 9) ∧ j < 3 := by
      intro j p hj
      match j, hj with
      | 0, hj => cases hj; exact ⟨map_at (c := 38) (by omega), by omega⟩
      | 1, hj => cases hj; exact ⟨map_at (c := 194) (by omega), by omega⟩
      | 2, hj => cases hj; exact ⟨map_at (c := 34) (by omega), by omega⟩
      | k + 3, hj => simp [pV] at hj
    intro j j' p p' h1 h2 e
    obtain ⟨e1, l1⟩ := key j p h1
    obtain ⟨e2, l2⟩ := key j' p' h2
    rw [e1, e2] at e
    match j, l1, j', l2, e with
    | 0, _, 0, _, _ => rfl
    | 1, _, 1, _, _ => rfl
    | 2, _, 2, _, _ => rfl
    | 0, _, 1, _, e | 0, _, 2, _, e | 1, _, 0, _, e | 1, _, 2, _, e | 2, _, 0, _, e | 2, _, 1, _, e => simp at e
theorem fitV : Fit lV 3 4 1 pV where
  two := rfl
  small := by show 6 ≤ 1000; omega
  more := by show 2 < 6; omega
  keys := fun i hi => by
    have hi : i < 6 := hi
    match i, hi with
    | 0, _ | 1, _ | 2, _ | 3, _ | 4, _ | 5, _ => decide
  has := by omega
  one := fun q hq => by
    match q, hq with
    | 0, _ => rfl
  nb := by decide
  ts := sumTV
  tl := by omega
  pairs := pairsV
theorem smallV : ∀ p, p ∈ pV → p.2.size ≤ 1000 := by decide
set_option maxRecDepth 100000 in
set_option maxHeartbeats 8000000 in
theorem escapeValue_calls (w : World) (l : List UInt8) (hs : l.length ≤ 1048576) :
    Calls Try.prog 8 #[.string (lst l)] w fun e w' => e = .returned (.string (lst (esc pV (l.length + 1) l))) ∧ Below w.heap.size w w' := by
  have HS := Aside0.mk hs
  clear hs
  go_enter Try.func8, Try.ntmps8
  go_wp2_with (first
    | ((with_reducible refine gate_dst (N := 3) rfl ?_); refine Kd.R_lit Kd.string (w0 := w) w.heap.size 9 ?hg (N := 3) ?hd (xs := lV) (inner := lV.map Value.string) (ok := fun _ => True) (okp := fun _ => True) ?hr ?hp (fun _ hk => hk) trivial (Below.refl _ _) (Nat.le_refl _) (by show 6 ≤ 9223372036854775807; omega) ?_; (case hd => rfl); (case hg => rfl); (case hr => first | (go_simp; done) | (go_simp; rfl) | (go_simp; exact ⟨rfl, rfl⟩)); (case hp => exact Kd.reps_scalar _); intro v3 w3 ho3 hb3 hg3 hat3; obtain ⟨A3, c3, ev3⟩ := Kd.R_slice ho3; subst ev3; obtain ⟨_, hc3, hC3⟩ := Kd.R_reads' ho3; have HC3 := Aside0.mk hC3; have HL3 := Aside0.mk hc3; have HB3 := Aside0.mk hb3; clear ho3 hb3 hg3 hat3 hc3 hC3)
    | (go_at_call 10; refine (newReplacer_calls w3 A3 c3 lV 3 HC3.out HL3.out fitV.two fitV.small).mono ?_; rintro e w4 ⟨b, A', c', rfl, h1, h2, h3, h4, h5⟩; have GB := Aside0.mk (Nat.le_trans HB3.out.size h1); have HB4 := Aside0.mk (below_step HB3.out h2); have HX4 := Aside0.mk h3; have HC4 := Aside0.mk h4; have HL4 := Aside0.mk h5; clear h1 h2 h3 h4 h5 HC3 HL3 HB3)
    | (go_at_call 11; refine (replacer_calls w4 b A' c' 3 4 1 lV pV l HX4.out HC4.out HL4.out fitV placesV HS.out smallV w w.heap.size HB4.out GB.out HB4.out.size).mono ?_; rintro e w5 ⟨rfl, hb5⟩; have HB5 := Aside0.mk hb5; clear hb5))
  go_ret
  exact ⟨rfl, HB5.out⟩
end Go.Proofs.Ytkhgmjmfgbpenaa.Trie
