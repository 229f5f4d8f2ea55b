/- impl.EscapeValue, by its contract. -/
import Derived.Test.YtkhgmjmfgbpenaaEscV
import Derived.Test.YtkhgmjmfgbpenaaQFnExactEscapeValuex1
namespace Go.Proofs.Ytkhgmjmfgbpenaa.QFnExactEscapeValue
open Go Go.RowKit Go.Proofs.YtkhgmjmfgbpenaaV.PrintWords Go.Proofs.YtkhgmjmfgbpenaaV.PrintLast Go.Proofs.YtkhgmjmfgbpenaaV.PrintMore Go.Proofs.Ytkhgmjmfgbpenaa.Trie
set_option linter.unusedVariables false
set_option linter.unusedSimpArgs false

def impl_EscapeValue.f (k : Nat) (a0 : ByteArray) : Option (ByteArray) := if a0.size ≤ 1048576 then (some (Trie.lst (Trie.esc Trie.pV (a0.size + 1) a0.data.toList))) else (none)
theorem impl_EscapeValue.mono : ∀ a0 k, LeO (impl_EscapeValue.f k a0) (impl_EscapeValue.f (k + 1) a0) := fun a0 k => LeO.refl _
theorem impl_EscapeValue.calls (k : Nat) (a0 : ByteArray) (r : ByteArray) (w : World) (h : impl_EscapeValue.f k a0 = some r) :
    Calls Try.prog 8 #[.string a0] w fun e w' => e = .returned (.string r) ∧ Below w.heap.size w w' := by
  unfold impl_EscapeValue.f at h
  by_cases hs : a0.size ≤ 1048576
  · rw [if_pos hs] at h
    obtain rfl := Option.some.inj h
    obtain ⟨⟨l⟩⟩ := a0
    exact escapeValue_calls w l hs
  · rw [if_neg hs] at h
    cases h
end Go.Proofs.Ytkhgmjmfgbpenaa.QFnExactEscapeValue
