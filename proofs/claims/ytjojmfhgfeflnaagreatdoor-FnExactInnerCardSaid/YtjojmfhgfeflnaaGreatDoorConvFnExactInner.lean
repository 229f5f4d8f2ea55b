/- Written by wip/tools/conv.py: what the laws' own copies, looks and bulks of their structs come to. -/
import Derived.Test.YtjojmfhgfeflnaaGreatDoorFFnExactInner
import Derived.Test.YtjojmfhgfeflnaaGreatDoorLoops
namespace Go.Proofs.YtjojmfhgfeflnaaGreatDoor.QFnExactInner
open Go Go.RowKit Go.Proofs.YtjojmfhgfeflnaaGreatDoorV.PrintWords Go.Proofs.YtjojmfhgfeflnaaGreatDoorV.PrintLast Go.Proofs.YtjojmfhgfeflnaaGreatDoorV.PrintMore Go.Proofs.YtjojmfhgfeflnaaGreatDoor.Val
set_option linter.unusedVariables false
set_option linter.unusedSimpArgs false

abbrev wf_Attr (x : S91) : Prop := x.f0.size ≤ maxLen ∧ x.f1.size ≤ maxLen
def bulk_Attr (x : S91) : Nat := x.f0.size + x.f1.size
def of_Attr (x : S91) : S77 := ⟨x.f0, x.f1⟩
theorem sz_Attr (x : S91) (hx : wf_Attr x) (q : Int) (h0 : 0 ≤ q) (hq : q ≤ 1048576) : ∃ r : Int, laws_szAttr.f (x.f0) (x.f1) q = some r ∧ r ≤ q ∧ (0 ≤ r → r = q - (bulk_Attr x : Nat)) := by
  unfold laws_szAttr.f
  obtain ⟨g0, g1⟩ := hx
  have hs1 : x.f0.size ≤ 9223372036854775807 := by have := g0; unfold maxLen at this; omega
  have hw1 : wrap64 (q - (x.f0.size : Int)) = q - (x.f0.size : Int) := w64 (by omega) (by omega)
  simp only [hw1]
  by_cases c1 : q - (x.f0.size : Int) < 0
  · rw [if_pos c1]; exact ⟨-1, rfl, by omega, by omega⟩
  rw [if_neg c1]
  obtain ⟨q1, hq1⟩ : ∃ q1 : Int, q1 = q - (x.f0.size : Int) := ⟨_, rfl⟩
  rw [← hq1]
  have hs2 : x.f1.size ≤ 9223372036854775807 := by have := g1; unfold maxLen at this; omega
  have hw2 : wrap64 (q1 - (x.f1.size : Int)) = q1 - (x.f1.size : Int) := w64 (by omega) (by omega)
  simp only [hw2]
  by_cases c2 : q1 - (x.f1.size : Int) < 0
  · rw [if_pos c2]; exact ⟨-1, rfl, by omega, by omega⟩
  rw [if_neg c2]
  obtain ⟨q2, hq2⟩ : ∃ q2 : Int, q2 = q1 - (x.f1.size : Int) := ⟨_, rfl⟩
  rw [← hq2]
  exact ⟨q2, rfl, by omega, fun _ => by unfold bulk_Attr; omega⟩
theorem to_Attr (x : S91) (hx : bulk_Attr x ≤ 1048576) : ∃ t, laws_toAttr.f (x.f0) (x.f1) = some t ∧ (⟨t.1, t.2⟩ : S77) = of_Attr x := by
  unfold laws_toAttr.f
  try simp only [Option.bind_some]
  exact ⟨_, rfl, rfl⟩
theorem eq_Attr (x : S91) (hx : bulk_Attr x ≤ 1048576) : laws_eqAttr.f ((of_Attr x).f0) ((of_Attr x).f1) ((of_Attr x).f0) ((of_Attr x).f1) = some true := by
  unfold laws_eqAttr.f
  unfold of_Attr
  simp only [Option.bind_some, if_true, eq_self]
def bulk_AttrS (l : List S91) : Nat := l.length + (l.map bulk_Attr).sum
theorem sz_AttrS (l : List S91) (hl : l.length ≤ maxLen ∧ ∀ x ∈ l, wf_Attr x) (q : Int) (h0 : 0 ≤ q) (hq : q ≤ 1048576) : ∃ r : Int, laws_szAttrS.F l q = some r ∧ r ≤ q ∧ (0 ≤ r → r = q - (bulk_AttrS l : Nat)) :=
  sz_list bulk_Attr wf_Attr z91 (fun x q => laws_szAttr.f (x.f0) (x.f1) q) (fun l q i => laws_szAttrS.L0 l q i) laws_szAttrS.F (fun l q => laws_szAttrS.F_eq l q) (fun l q i => laws_szAttrS.L0_eq l q i) (fun x hx q a b => sz_Attr x hx q a b) l hl q h0 hq
theorem mem_Attr {l : List S91} {n : Nat} (h : bulk_AttrS l ≤ n) : l.length ≤ n ∧ ∀ x ∈ l, bulk_Attr x ≤ n :=
  ⟨by unfold bulk_AttrS at h; omega, fun x hx => by have := sum_mem bulk_Attr hx; unfold bulk_AttrS at h; omega⟩
theorem to_AttrS (l : List S91) (h : bulk_AttrS l ≤ 1048576) : laws_toAttrS.F l = some (l.map of_Attr) :=
  to_list of_Attr (fun x => bulk_Attr x ≤ 1048576) z91 z77 8796093022208 (by omega) (fun x => laws_toAttr.f (x.f0) (x.f1)) (fun t => (⟨t.1, t.2⟩ : S77)) (fun l ys i => laws_toAttrS.L0 l ys i) laws_toAttrS.F (fun l => laws_toAttrS.F_eq l) (fun l ys i => laws_toAttrS.L0_eq l ys i) (fun x hx => to_Attr x hx) l (mem_Attr h).1 (mem_Attr h).2
theorem eq_AttrS (l : List S91) (h : bulk_AttrS l ≤ 1048576) : laws_eqAttrS.F (l.map of_Attr) (l.map of_Attr) = some true :=
  eq_list of_Attr (fun x => bulk_Attr x ≤ 1048576) z91 z77 (fun x y => laws_eqAttr.f (x.f0) (x.f1) (y.f0) (y.f1)) (fun a b i => laws_eqAttrS.L0 a b i) laws_eqAttrS.F (fun a b => laws_eqAttrS.F_eq a b) (fun a b i => laws_eqAttrS.L0_eq a b i) (fun x hx => eq_Attr x hx) l (mem_Attr h).1 (mem_Attr h).2
abbrev wf_Node (x : S63) : Prop := (Lit.int .i64 x.f0).wf = true ∧ (Lit.int .i64 x.f1).wf = true ∧ x.f2.size ≤ maxLen ∧ ((x.f3).length ≤ maxLen ∧ ∀ y ∈ x.f3, wf_Attr y) ∧ x.f4.size ≤ maxLen ∧ (Lit.int .i64 x.f5).wf = true
def bulk_Node (x : S63) : Nat := x.f2.size + bulk_AttrS x.f3 + x.f4.size
def of_Node (x : S63) : S57 := ⟨x.f0, x.f1, x.f2, (x.f3.map of_Attr), x.f4, x.f5⟩
theorem sz_Node (x : S63) (hx : wf_Node x) (q : Int) (h0 : 0 ≤ q) (hq : q ≤ 1048576) : ∃ r : Int, laws_szNode.F (x.f0) (x.f1) (x.f2) (x.f3) (x.f4) (x.f5) q = some r ∧ r ≤ q ∧ (0 ≤ r → r = q - (bulk_Node x : Nat)) := by
  rw [laws_szNode.F_eq]
  obtain ⟨g0, g1, g2, g3, g4, g5⟩ := hx
  have hs1 : x.f2.size ≤ 9223372036854775807 := by have := g2; unfold maxLen at this; omega
  have hw1 : wrap64 (q - (x.f2.size : Int)) = q - (x.f2.size : Int) := w64 (by omega) (by omega)
  simp only [hw1]
  by_cases c1 : q - (x.f2.size : Int) < 0
  · rw [if_pos c1]; exact ⟨-1, rfl, by omega, by omega⟩
  rw [if_neg c1]
  obtain ⟨q1, hq1⟩ : ∃ q1 : Int, q1 = q - (x.f2.size : Int) := ⟨_, rfl⟩
  rw [← hq1]
  obtain ⟨q2, e2, b2, d2⟩ := sz_AttrS x.f3 g3 q1 (by omega) (by omega)
  rw [e2, Option.bind_some]
  by_cases c2 : q2 < 0
  · rw [if_pos c2]; exact ⟨-1, rfl, by omega, by omega⟩
  rw [if_neg c2]
  have hq2 := d2 (by omega)
  have hs3 : x.f4.size ≤ 9223372036854775807 := by have := g4; unfold maxLen at this; omega
  have hw3 : wrap64 (q2 - (x.f4.size : Int)) = q2 - (x.f4.size : Int) := w64 (by omega) (by omega)
  simp only [hw3]
  by_cases c3 : q2 - (x.f4.size : Int) < 0
  · rw [if_pos c3]; exact ⟨-1, rfl, by omega, by omega⟩
  rw [if_neg c3]
  obtain ⟨q3, hq3⟩ : ∃ q3 : Int, q3 = q2 - (x.f4.size : Int) := ⟨_, rfl⟩
  rw [← hq3]
  exact ⟨q3, rfl, by omega, fun _ => by unfold bulk_Node; omega⟩
theorem to_Node (x : S63) (hx : bulk_Node x ≤ 1048576) : ∃ t, laws_toNode.F (x.f0) (x.f1) (x.f2) (x.f3) (x.f4) (x.f5) = some t ∧ (⟨t.1, t.2.1, t.2.2.1, t.2.2.2.1, t.2.2.2.2.1, t.2.2.2.2.2⟩ : S57) = of_Node x := by
  rw [laws_toNode.F_eq]
  have t0 := to_AttrS x.f3 (by unfold bulk_Node at hx; omega)
  try simp only [t0, Option.bind_some]
  exact ⟨_, rfl, rfl⟩
theorem eq_Node (x : S63) (hx : bulk_Node x ≤ 1048576) : laws_eqNode.F ((of_Node x).f0) ((of_Node x).f1) ((of_Node x).f2) ((of_Node x).f3) ((of_Node x).f4) ((of_Node x).f5) ((of_Node x).f0) ((of_Node x).f1) ((of_Node x).f2) ((of_Node x).f3) ((of_Node x).f4) ((of_Node x).f5) = some true := by
  have t0 := eq_AttrS x.f3 (by unfold bulk_Node at hx; omega)
  rw [laws_eqNode.F_eq]
  unfold of_Node
  simp only [t0, Option.bind_some, if_true, eq_self]
def bulk_NodeS (l : List S63) : Nat := l.length + (l.map bulk_Node).sum
theorem sz_NodeS (l : List S63) (hl : l.length ≤ maxLen ∧ ∀ x ∈ l, wf_Node x) (q : Int) (h0 : 0 ≤ q) (hq : q ≤ 1048576) : ∃ r : Int, laws_szNodeS.F l q = some r ∧ r ≤ q ∧ (0 ≤ r → r = q - (bulk_NodeS l : Nat)) :=
  sz_list bulk_Node wf_Node z63 (fun x q => laws_szNode.F (x.f0) (x.f1) (x.f2) (x.f3) (x.f4) (x.f5) q) (fun l q i => laws_szNodeS.L0 l q i) laws_szNodeS.F (fun l q => laws_szNodeS.F_eq l q) (fun l q i => laws_szNodeS.L0_eq l q i) (fun x hx q a b => sz_Node x hx q a b) l hl q h0 hq
theorem mem_Node {l : List S63} {n : Nat} (h : bulk_NodeS l ≤ n) : l.length ≤ n ∧ ∀ x ∈ l, bulk_Node x ≤ n :=
  ⟨by unfold bulk_NodeS at h; omega, fun x hx => by have := sum_mem bulk_Node hx; unfold bulk_NodeS at h; omega⟩
theorem to_NodeS (l : List S63) (h : bulk_NodeS l ≤ 1048576) : laws_toNodeS.F l = some (l.map of_Node) :=
  to_list of_Node (fun x => bulk_Node x ≤ 1048576) z63 z57 3518437208883 (by omega) (fun x => laws_toNode.F (x.f0) (x.f1) (x.f2) (x.f3) (x.f4) (x.f5)) (fun t => (⟨t.1, t.2.1, t.2.2.1, t.2.2.2.1, t.2.2.2.2.1, t.2.2.2.2.2⟩ : S57)) (fun l ys i => laws_toNodeS.L0 l ys i) laws_toNodeS.F (fun l => laws_toNodeS.F_eq l) (fun l ys i => laws_toNodeS.L0_eq l ys i) (fun x hx => to_Node x hx) l (mem_Node h).1 (mem_Node h).2
theorem eq_NodeS (l : List S63) (h : bulk_NodeS l ≤ 1048576) : laws_eqNodeS.F (l.map of_Node) (l.map of_Node) = some true :=
  eq_list of_Node (fun x => bulk_Node x ≤ 1048576) z63 z57 (fun x y => laws_eqNode.F (x.f0) (x.f1) (x.f2) (x.f3) (x.f4) (x.f5) (y.f0) (y.f1) (y.f2) (y.f3) (y.f4) (y.f5)) (fun a b i => laws_eqNodeS.L0 a b i) laws_eqNodeS.F (fun a b => laws_eqNodeS.F_eq a b) (fun a b i => laws_eqNodeS.L0_eq a b i) (fun x hx => eq_Node x hx) l (mem_Node h).1 (mem_Node h).2
theorem sz_Tree (x0 : (List S63)) (g0 : ((x0).length ≤ maxLen ∧ ∀ y ∈ x0, wf_Node y)) (q : Int) (h0 : 0 ≤ q) (hq : q ≤ 1048576) : ∃ r : Int, laws_szTree.F x0 q = some r ∧ r ≤ q ∧ (0 ≤ r → r = q - ((bulk_NodeS x0 : Nat) : Int)) := by
  rw [laws_szTree.F_eq]
  obtain ⟨q1, e1, b1, d1⟩ := sz_NodeS x0 g0 q (by omega) (by omega)
  rw [e1, Option.bind_some]
  by_cases c1 : q1 < 0
  · rw [if_pos c1]; exact ⟨-1, rfl, by omega, by omega⟩
  rw [if_neg c1]
  have hq1 := d1 (by omega)
  exact ⟨q1, rfl, by omega, fun _ => by omega⟩
theorem to_Tree (x0 : (List S63)) (h : bulk_NodeS x0 ≤ 1048576) : laws_toTree.F x0 = some (x0.map of_Node) := by
  rw [laws_toTree.F_eq]
  have t0 := to_NodeS x0 (by omega)
  simp only [t0, Option.bind_some]
theorem eq_Tree (x0 : (List S63)) (h : bulk_NodeS x0 ≤ 1048576) : laws_eqTree.F (x0.map of_Node) (x0.map of_Node) = some true := by
  rw [laws_eqTree.F_eq]
  have t0 := eq_NodeS x0 (by omega)
  simp only [t0, Option.bind_some, if_true, eq_self]

end Go.Proofs.YtjojmfhgfeflnaaGreatDoor.QFnExactInner
