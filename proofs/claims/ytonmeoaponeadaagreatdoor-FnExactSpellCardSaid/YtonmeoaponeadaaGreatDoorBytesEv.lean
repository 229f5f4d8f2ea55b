/- '[]byte(s)', as an event: a row of its own that is read. -/
import Derived.Test.YtonmeoaponeadaaGreatDoorVAll
namespace Go.Proofs.YtonmeoaponeadaaGreatDoor.BytesEv
open Go Go.RowKit Go.Proofs.YtonmeoaponeadaaGreatDoorV.PrintWords
set_option linter.unusedVariables false
section
variable {P : Program} {ops : Array Oper} {rest : List Oper} {o : Oper} {a : Act} {Q : Exit → Act → World → Prop}
theorem bytes_event {W : World} (hgd : o.guard = none) {N : Tmp} (_hd : o.dst = some N) {e : TypeId} (s : ByteArray) (hs : s.size ≤ 9223372036854775807)
    (hrun : (execOp a.eval o).run P W = .ok (.value (.slice (some ⟨W.heap.size, 0, none⟩) s.size (grownCap W s.size 0 e))) (Lib.bytesWorld W e s))
    (h : ∀ ad c w1, s.size ≤ c → Kd.C (Kd.int .u8) w1 (some ad) s.size (bytesOf s) → Below W.heap.size W w1 → W.heap.size ≤ ad.block → wpList P ops Q rest (a.put o.dst (.slice (some ad) s.size c)) w1) : wpList P ops Q (o :: rest) a W :=
  Kd.event_run hgd hrun (h _ _ _ (grownCap_ge W s.size 0 e) (Kd.C_of_reads (bytes_reads W e s hs)) (bytes_below (Below.refl _ _) (Nat.le_refl _) e s) (Nat.le_refl _))
end
end Go.Proofs.YtonmeoaponeadaaGreatDoor.BytesEv
