/-
  ARGUMENTS AS PLAIN DATA: what opens a slice of things that are told by data.
-/
import Derived.Test.YtiffpkbkmpianaaSto
namespace Go.Proofs.Ytiffpkbkmpianaa.X
open Go Go.RowKit
set_option linter.unusedVariables false
/-- a slice of things that are told by 'cells', as far as it is read -/
def RS {α : Type} (w : World) (size : Nat) (cells : α → List Value) (v : Value) (l : List α) : Prop := RD w size v l.length (l.map cells).flatten
theorem rows_of {α : Type} {cells : α → List Value} {size : Nat} (hc : ∀ a, (cells a).length = size) (l : List α) : ∀ r ∈ l.map cells, r.length = size := fun r hr => by
  obtain ⟨a, _, rfl⟩ := List.mem_map.1 hr
  exact hc a
theorem rows_at {α : Type} {cells : α → List Value} {size : Nat} (hc : ∀ a, (cells a).length = size) {l : List α} {i : Nat} {a : α} (hi : l[i]? = some a) {q : Nat} {u : Value} (hu : (cells a)[q]? = some u) : (l.map cells).flatten[i * size + q]? = some u :=
  flat_at (rows_of hc l) (by rw [List.getElem?_map, hi]; rfl) hu
section
variable {α : Type} {w : World} {size : Nat} {cells : α → List Value} {v : Value} {l : List α}
theorem RS.val (h : RS w size cells v l) : ∃ ao c, v = .slice ao l.length c := RD.val h
theorem RS.heapEq {w' : World} (h : RS w size cells v l) (hh : w'.heap = w.heap) : RS w' size cells v l := RD.heapEq h hh
theorem RS.below {w' : World} (h : RS w size cells v l) (hb : Below w.heap.size w w') : RS w' size cells v l := RD.below h hb
theorem RS.addr {ao : Option Addr} {c : Nat} (h : RS w size cells (.slice ao l.length c) l) (hn : 0 < l.length) : ∃ b o, ao = some ⟨b, o, none⟩ := RD.addr h hn
theorem RS.cell {b o c : Nat} (h : RS w size cells (.slice (some ⟨b, o, none⟩) l.length c) l) (hc : ∀ a, (cells a).length = size) {i : Nat} {a : α} (hi : l[i]? = some a) {q : Nat} {u : Value} (hu : (cells a)[q]? = some u) : w.cell? ⟨b, o + i * size + q, none⟩ = some u := by
  rw [Nat.add_assoc]
  exact RD.cell h (rows_at hc hi hu)
/-- number i as a whole -/
theorem RS.all {b o c : Nat} (h : RS w size cells (.slice (some ⟨b, o, none⟩) l.length c) l) (hc : ∀ a, (cells a).length = size) {i : Nat} {a : α} (hi : l[i]? = some a) : ∀ (j : Nat) (u : Value), (cells a)[j]? = some u → w.cell? ((⟨b, o + i * size, none⟩ : Addr).add j) = some u := fun j u hu => by
  rw [Addr.add_lit]
  exact h.cell hc hi hu
end
section
variable {H : Type} {enc : TypeId × Value → H} {P : Program} {w : World}
theorem TR.int1 {t : TypeId} {k : IntKind} {cs : List Value} (hu : P.underlying t = some (.int k)) (_ : uns k = false) (h : TR enc P w t cs) : ∃ n, cs = [.int k n] ∧ lo k ≤ n ∧ n ≤ hi k := h.int hu
theorem TR.nat1 {t : TypeId} {k : IntKind} {cs : List Value} (hu : P.underlying t = some (.int k)) (hk : uns k = true) (h : TR enc P w t cs) : ∃ n : Nat, cs = [.int k (n : Int)] ∧ n ≤ (hi k).toNat := by
  obtain ⟨n, h1, h2⟩ := h.nat hu hk
  exact ⟨n, h1, by omega⟩
theorem TR.bool1 {t : TypeId} {cs : List Value} (hu : P.underlying t = some .bool) (h : TR enc P w t cs) : ∃ b, cs = [.bool b] ∧ True := by
  obtain ⟨b, h1⟩ := h.bool hu
  exact ⟨b, h1, trivial⟩
theorem TR.bytes1 {t e : TypeId} {cs : List Value} (hu : P.underlying t = some (.slice e)) (he : P.underlying e = some (.int .u8)) (hz : P.cellsOf e = 1) (h : TR enc P w t cs) : ∃ x : Value × List UInt8, cs = [x.1] ∧ RB w x.1 x.2 ∧ x.2.length ≤ maxLen := by
  obtain ⟨v, l, h1, h2, h3⟩ := h.bytes hu he hz
  exact ⟨(v, l), h1, h2, h3⟩
theorem TR.slice1 {α : Type} {cells : α → List Value} {ok : α → Prop} {t e k : TypeId} {cs : List Value} (hu : P.underlying t = some (.slice e)) (hz : P.cellsOf e = k) (hk : 0 < k) (hel : ∀ r, TR enc P w e r → ∃ a, r = cells a ∧ ok a) (h : TR enc P w t cs) :
    ∃ x : Value × List α, cs = [x.1] ∧ RS w k cells x.1 x.2 ∧ x.2.length ≤ maxLen ∧ ∀ a ∈ x.2, ok a := by
  obtain ⟨v, n, rows, rfl, hrd, hl, hm, hall⟩ := h.slice hu hz hk
  obtain ⟨l, rfl, hok⟩ := rows_data (cells := cells) (ok := ok) (fun r (hr : r.length = k ∧ TR enc P w e r) => hel r hr.2) rows hall
  rw [List.length_map] at hl
  subst hl
  exact ⟨(v, l), rfl, hrd, hm, hok⟩
/-- the argument of a law -/
theorem TR.arg {α : Type} {cells : α → List Value} {ok : α → Prop} {t e k : TypeId} {a : Option Addr} {n c : Nat} (hu : P.underlying t = some (.slice e)) (hz : P.cellsOf e = k) (hk : 0 < k) (hel : ∀ r, TR enc P w e r → ∃ a, r = cells a ∧ ok a) (h : TR enc P w t [.slice a n c]) :
    ∃ l : List α, n = l.length ∧ RS w k cells (.slice a l.length c) l ∧ l.length ≤ 9223372036854775807 ∧ ∀ a ∈ l, ok a := by
  obtain ⟨⟨v, l⟩, hv, h1, h2, h3⟩ := TR.slice1 hu hz hk hel h
  obtain rfl : v = .slice a n c := by simpa using hv.symm
  dsimp only at h1 h2 h3
  obtain ⟨a', c', e⟩ := h1.val
  cases e
  exact ⟨l, rfl, h1, h2, h3⟩
end
end Go.Proofs.Ytiffpkbkmpianaa.X
