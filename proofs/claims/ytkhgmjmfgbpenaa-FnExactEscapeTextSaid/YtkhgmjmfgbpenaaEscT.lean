/- The two lists of pairs: what the replacers' tables are. impl's two escapes, walked. -/
import Derived.Test.YtkhgmjmfgbpenaaEscW
namespace Go.Proofs.Ytkhgmjmfgbpenaa.Trie
open Go Go.RowKit Go.Proofs.YtkhgmjmfgbpenaaV.PrintWords Go.Proofs.YtkhgmjmfgbpenaaV.PrintLast Go.Proofs.YtkhgmjmfgbpenaaV.PrintMore Go.Proofs.Ytkhgmjmfgbpenaa.Once
set_option linter.unusedVariables false
set_option linter.unusedSimpArgs false

def lT : List ByteArray := [⟨#[38]⟩, ⟨#[38, 97, 109, 112, 59]⟩, ⟨#[60]⟩, ⟨#[38, 108, 116, 59]⟩, ⟨#[62]⟩, ⟨#[38, 103, 116, 59]⟩, ⟨#[194, 160]⟩, ⟨#[38, 110, 98, 115, 112, 59]⟩]
def pT : Ps := [(some 38, ⟨#[38, 97, 109, 112, 59]⟩), (some 60, ⟨#[38, 108, 116, 59]⟩), (some 62, ⟨#[38, 103, 116, 59]⟩), (none, ⟨#[38, 110, 98, 115, 112, 59]⟩)]
def placeT (c : Nat) : Int := if c = 38 then 0 else if c = 60 then 1 else if c = 62 then 2 else if c = 160 then 3 else if c = 194 then 4 else 5
theorem mapT : (numM (mkA lT 4) ((5 : Nat) : Int) 256).1 = (List.range 256).map placeT := by decide +kernel
theorem sumTT : sumT (mkA lT 4) 256 = ((5 : Nat) : Int) := by decide +kernel
theorem map_at {place : Nat → Int} {c : Nat} (h : c < 256) : ((List.range 256).map place)[c]? = some (place c) := by
  rw [List.getElem?_map, List.getElem?_range h]
  rfl
set_option maxRecDepth 100000 in
theorem placesT : ∀ M, M = (numM (mkA lT 4) ((5 : Nat) : Int) 256).1 → Places M 5 := by
  intro M hM
  rw [hM, mapT]
  constructor
  · intro c hc
    rw [map_at hc]
    unfold placeT
    repeat' split
    · exact ⟨0, by omega, rfl⟩
    · exact ⟨1, by omega, rfl⟩
    · exact ⟨2, by omega, rfl⟩
    · exact ⟨3, by omega, rfl⟩
    · exact ⟨4, by omega, rfl⟩
    · exact ⟨5, by omega, rfl⟩
  · intro c c' m hm h1 h2
    have b1 : c < 256 := by have := (List.getElem?_eq_some_iff.1 h1).1; simpa using this
    have b2 : c' < 256 := by have := (List.getElem?_eq_some_iff.1 h2).1; simpa using this
    rw [map_at b1] at h1
    rw [map_at b2] at h2
    injection h1 with h1
    injection h2 with h2
    unfold placeT at h1 h2
    repeat' split at h1
    all_goals repeat' split at h2
    all_goals omega
set_option maxRecDepth 100000 in
theorem pairsT : ∀ M, M = (numM (mkA lT 4) ((5 : Nat) : Int) 256).1 → Pairs lT M 5 4 pT := by
  intro M hM
  rw [hM, mapT]
  refine ⟨rfl, rfl, by omega, ?_, ?_, ?_, ?_⟩
  · intro j p hj
    match j, hj with
    | 0, hj => cases hj; rfl
    | 1, hj => cases hj; rfl
    | 2, hj => cases hj; rfl
    | 3, hj => cases hj; rfl
    | k + 4, hj => simp [pT] at hj
  · intro j p hj
    match j, hj with
    | 0, hj => cases hj; rfl
    | 1, hj => cases hj; rfl
    | 2, hj => cases hj; rfl
    | 3, hj => cases hj; rfl
    | k + 4, hj => simp [pT] at hj
  · intro j p hj
    match j, hj with
    | 0, hj => cases hj; exact ⟨0, by omega, map_at (c := 38) (by omega)⟩
    | 1, hj => cases hj; exact ⟨1, by omega, map_at (c := 60) (by omega)⟩
    | 2, hj => cases hj; exact ⟨2, by omega, map_at (c := 62) (by omega)⟩
    | 3, hj => cases hj; exact ⟨4, by omega, map_at (c := 194) (by omega)⟩
    | k + 4, hj => simp [pT] at hj
  · have key : ∀ j p, pT[j]? = some p → ((List.range 256).map placeT)[lead p.1]? = some (([0, 1, 2, 4] : List Int).getD j 9) ∧ j < 4 := by
      intro j p hj
      match j, hj with
      | 0, hj => cases hj; exact ⟨map_at (c := 38) (by omega), by omega⟩
      | 1, hj => cases hj; exact ⟨map_at (c := 60) (by omega), by omega⟩
      | 2, hj => cases hj; exact ⟨map_at (c := 62) (by omega), by omega⟩
      | 3, hj => cases hj; exact ⟨map_at (c := 194) (by omega), by omega⟩
      | k + 4, hj => simp [pT] at hj
    intro j j' p p' h1 h2 e
    obtain ⟨e1, l1⟩ := key j p h1
    obtain ⟨e2, l2⟩ := key j' p' h2
    rw [e1, e2] at e
    match j, l1, j', l2, e with
    | 0, _, 0, _, _ => rfl
    | 1, _, 1, _, _ => rfl
    | 2, _, 2, _, _ => rfl
    | 3, _, 3, _, _ => rfl
    | 0, _, 1, _, e | 0, _, 2, _, e | 0, _, 3, _, e | 1, _, 0, _, e | 1, _, 2, _, e | 1, _, 3, _, e | 2, _, 0, _, e | 2, _, 1, _, e | 2, _, 3, _, e | 3, _, 0, _, e | 3, _, 1, _, e | 3, _, 2, _, e => simp at e
theorem fitT : Fit lT 4 5 3 pT where
  two := rfl
  small := by show 8 ≤ 1000; omega
  more := by show 2 < 8; omega
  keys := fun i hi => by
    have hi : i < 8 := hi
    match i, hi with
    | 0, _ | 1, _ | 2, _ | 3, _ | 4, _ | 5, _ | 6, _ | 7, _ => decide
  has := by omega
  one := fun q hq => by
    match q, hq with
    | 0, _ | 1, _ | 2, _ => rfl
  nb := by decide
  ts := sumTT
  tl := by omega
  pairs := pairsT
theorem smallT : ∀ p, p ∈ pT → p.2.size ≤ 1000 := by decide
set_option maxRecDepth 100000 in
set_option maxHeartbeats 8000000 in
theorem escapeText_calls (w : World) (l : List UInt8) (hs : l.length ≤ 1048576) :
    Calls Try.prog 6 #[.string (lst l)] w fun e w' => e = .returned (.string (lst (esc pT (l.length + 1) l))) ∧ Below w.heap.size w w' := by
  have HS := Aside0.mk hs
  clear hs
  go_enter Try.func6, Try.ntmps6
  go_wp2_with (first
    | ((with_reducible refine gate_dst (N := 3) rfl ?_); refine Kd.R_lit Kd.string (w0 := w) w.heap.size 9 ?hg (N := 3) ?hd (xs := lT) (inner := lT.map Value.string) (ok := fun _ => True) (okp := fun _ => True) ?hr ?hp (fun _ hk => hk) trivial (Below.refl _ _) (Nat.le_refl _) (by show 8 ≤ 9223372036854775807; omega) ?_; (case hd => rfl); (case hg => rfl); (case hr => first | (go_simp; done) | (go_simp; rfl) | (go_simp; exact ⟨rfl, rfl⟩)); (case hp => exact Kd.reps_scalar _); intro v3 w3 ho3 hb3 hg3 hat3; obtain ⟨A3, c3, ev3⟩ := Kd.R_slice ho3; subst ev3; obtain ⟨_, hc3, hC3⟩ := Kd.R_reads' ho3; have HC3 := Aside0.mk hC3; have HL3 := Aside0.mk hc3; have HB3 := Aside0.mk hb3; clear ho3 hb3 hg3 hat3 hc3 hC3)
    | (go_at_call 10; refine (newReplacer_calls w3 A3 c3 lT 4 HC3.out HL3.out fitT.two fitT.small).mono ?_; rintro e w4 ⟨b, A', c', rfl, h1, h2, h3, h4, h5⟩; have GB := Aside0.mk (Nat.le_trans HB3.out.size h1); have HB4 := Aside0.mk (below_step HB3.out h2); have HX4 := Aside0.mk h3; have HC4 := Aside0.mk h4; have HL4 := Aside0.mk h5; clear h1 h2 h3 h4 h5 HC3 HL3 HB3)
    | (go_at_call 11; refine (replacer_calls w4 b A' c' 4 5 3 lT pT l HX4.out HC4.out HL4.out fitT placesT HS.out smallT w w.heap.size HB4.out GB.out HB4.out.size).mono ?_; rintro e w5 ⟨rfl, hb5⟩; have HB5 := Aside0.mk hb5; clear hb5))
  go_ret
  exact ⟨rfl, HB5.out⟩
end Go.Proofs.Ytkhgmjmfgbpenaa.Trie
