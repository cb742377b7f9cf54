/-
  BYTES OF CONSTANT STRINGS; lists of byte slices that are only read.
-/
import Derived.Test.YtphakfggocdphaaBytes
namespace Go.Proofs.Ytphakfggocdphaa.X
open Go Go.RowKit
set_option linter.unusedVariables false
section
variable {P : Program} {n : Nat} {ops : Array Oper} {S : World → Prop} {K : Env → World → Prop} {rest : List (Oper × Nat × Bool)} {ρ : Env} {w w0 : World} {L : List HP}
variable {d : Nat} {ty : TypeId} {pos : String} {af : Array Edge} {held : Nat} {need : Bool} {x y : Operand}
/-- '[]byte("..")' of a constant: a row that is written out gets its mark -/
theorem x_mark {t e : TypeId} {b len cap : Nat} {C : Array Value} (ht : P.underlying t = some (.slice e)) (he : P.underlying e = some (.int .u8)) (hs : Sat w0 w (Blk b (.cells C e (0, 0)) :: L)) (hx : ev ρ x = .slice (some ⟨b, 0, none⟩) len cap)
    (h : ∀ w', Sat w0 w' (Blk b (.cells C e (C.size, C.size + 1)) :: L) → (need = true → S w') ∧ RX P n ops S K rest (upd n ρ d (.slice (some ⟨b, 0, none⟩) len cap)) w') :
    RX P n ops S K ((⟨some d, .convert t t x, ty, pos, af, none⟩, 0, need) :: rest) ρ w := by
  have hsh : w.shape? b = some (e, C.size) := by simp [World.shape?, hs.blk]
  have hblk : (w.freeze ⟨b, C.size, none⟩ 1).heap[b]? = some (.cells C e (C.size, C.size + 1)) := by
    unfold World.freeze
    rw [if_neg (by decide)]
    show (w.heap.modify b _)[b]? = _
    have hb := hs.blk
    rw [Array.getElem?_modify, hb]
    simp
  have hoth : ∀ k, k ≠ b → (w.freeze ⟨b, C.size, none⟩ 1).heap[k]? = w.heap[k]? := fun k hk => by
    unfold World.freeze
    rw [if_neg (by decide)]
    show (w.heap.modify b _)[k]? = _
    rw [Array.getElem?_modify, if_neg (Ne.symm hk)]
  have hos : (w.freeze ⟨b, C.size, none⟩ 1).os = w.os ∧ (w.freeze ⟨b, C.size, none⟩ 1).tape = w.tape ∧ (w.freeze ⟨b, C.size, none⟩ 1).output = w.output ∧ (w.freeze ⟨b, C.size, none⟩ 1).heap.size = w.heap.size := by
    unfold World.freeze
    rw [if_neg (by decide)]
    exact ⟨rfl, rfl, rfl, by simp⟩
  obtain ⟨h2, h3⟩ := h _ (hs.write hos.1 hos.2.1 hos.2.2.1 hos.2.2.2 hoth hblk)
  refine x_turn rfl ?_ h2 h3
  have hr : (convert t t (.slice (some ⟨b, 0, none⟩) len cap)).run P w = .ok (.slice (some ⟨b, 0, none⟩) len cap) (w.freeze ⟨b, C.size, none⟩ 1) := by
    simp [convert, run_underlying ht, run_underlying he, markStringish, hsh]
  simp [execOp, hx, hr]
theorem rd_blkF {b e len size : Nat} {cells : Array Value} {z : Nat × Nat} (hs : Sat w0 w (Blk b (.cells cells e z) :: L)) (hl : cells.size = len * size) : RD w size (.slice (some ⟨b, 0, none⟩) len len) len cells.toList := by
  refine ⟨by simpa using hl, _, _, rfl, Nat.le_refl _, (fun h => nomatch h), fun ad h => ?_⟩
  obtain rfl : (⟨b, 0, none⟩ : Addr) = ad := by simpa using h
  refine ⟨fun _ => rfl, fun j u hu => ?_⟩
  rw [Addr.add_lit, Nat.zero_add]
  exact hs.cell (by simpa using hu)
/-- a store of one cell into a row that is owned -/
theorem x_storeRow {t : TypeId} {e size k b off c j : Nat} {xs : List Value} (hs : Sat w0 w (Row e size (.slice (some ⟨b, off, none⟩) k c) k xs :: L)) (h1 : One P t) (v : Value)
    (hx : ev ρ x = .pointer (some ⟨b, off + j, none⟩)) (hy : ev ρ y = v) (hv : v.oneCell' = true) (hj : j < k * size)
    (h : ∀ w', Sat w0 w' (Row e size (.slice (some ⟨b, off, none⟩) k c) k (xs.set j v) :: L) → (need = true → S w') ∧ RX P n ops S K rest ρ w') :
    RX P n ops S K ((⟨none, .store t x y, ty, pos, af, none⟩, 0, need) :: rest) ρ w := by
  rcases hs.row with ⟨h0, _⟩ | ⟨b', off', cap, cur, e1, g1, g2, g3, g4, hb⟩
  · cases h0
  · cases e1
    have hm : k * size ≤ c * size := Nat.mul_le_mul_right _ g1
    have hi : off + j < cur.size := by omega
    have hc : w.cell? ⟨b, off + j, none⟩ = some cur[off + j] := hb.cell (Array.getElem?_eq_getElem hi)
    have hf : w.frozen? ⟨b, off + j, none⟩ = false := frozen_of_row w b _ cur e hb.blk
    have hb' := hb.setCell (i := off + j) v
    have hrow : Sat w0 (w.setCell ⟨b, off + j, none⟩ v) (Row e size (.slice (some ⟨b, off, none⟩) k c) k (xs.set j v) :: L) := by
      refine hb'.rowOf g1 g2 (by simpa using g3) ?_
      subst g4
      rw [Array.toList_setIfInBounds, List.drop_set, if_neg (by omega), ← List.take_set]
      congr 2
      omega
    obtain ⟨h2, h3⟩ := h _ hrow
    exact x_act rfl (by simp [execOp, hx, hy, run_store1 h1 hv hc hf]) h2 h3
end
/-- a slice of slices of bytes, as far as it is read -/
def RBB (w : World) (v : Value) (ls : List (List UInt8)) : Prop := ∃ vs : List Value, RD w 1 v ls.length vs ∧ ∀ (i : Nat) (u : Value) (b : List UInt8), vs[i]? = some u → ls[i]? = some b → RB w u b
theorem Sat.rbb {w0 w : World} {v : Value} {ls : List (List UInt8)} {L : List HP} (hs : Sat w0 w (BB v ls :: L)) : RBB w v ls := by
  obtain ⟨vs, hs⟩ := hs.bb
  exact ⟨vs, hs.rd, fun i u b h1 h2 => hs.tail.eachRB h1 h2⟩
theorem RBB.heapEq {w w' : World} {v : Value} {ls : List (List UInt8)} (h : RBB w v ls) (hh : w'.heap = w.heap) : RBB w' v ls := by
  obtain ⟨vs, h1, h2⟩ := h
  exact ⟨vs, h1.heapEq hh, fun i u b h3 h4 => (h2 i u b h3 h4).heapEq hh⟩
theorem RBB.val {w : World} {v : Value} {ls : List (List UInt8)} (h : RBB w v ls) : ∃ ao c, v = .slice ao ls.length c := let ⟨_, h1, _⟩ := h; h1.val
/-- number i of it, where it lies and what it reads as -/
theorem RBB.get {w : World} {ao : Option Addr} {c : Nat} {ls : List (List UInt8)} (h : RBB w (.slice ao ls.length c) ls) {i : Nat} {b : List UInt8} (hi : ls[i]? = some b) :
    ∃ g o a' c', ao = some ⟨g, o, none⟩ ∧ w.cell? ⟨g, o + i * 1, none⟩ = some (.slice a' b.length c') ∧ RB w (.slice a' b.length c') b := by
  obtain ⟨vs, h1, h2⟩ := h
  have hil : i < ls.length := (List.getElem?_eq_some_iff.1 hi).1
  obtain ⟨g, o, rfl⟩ := h1.addr (by omega)
  have hvl : vs.length = ls.length := by have := h1.1; omega
  obtain ⟨u, hu⟩ : ∃ u, vs[i]? = some u := ⟨vs[i]'(by omega), List.getElem?_eq_getElem _⟩
  have hrb := h2 i u b hu hi
  obtain ⟨a', c', rfl⟩ := hrb.val
  exact ⟨g, o, a', c', rfl, by rw [Nat.mul_one]; exact h1.cell hu, hrb⟩
theorem RBB.nil (w : World) : RBB w (.slice none 0 0) [] := ⟨[], ⟨rfl, none, 0, rfl, Nat.le_refl _, fun _ => rfl, (fun _ h => nomatch h)⟩, fun i u b h _ => by simp at h⟩
end Go.Proofs.Ytphakfggocdphaa.X
