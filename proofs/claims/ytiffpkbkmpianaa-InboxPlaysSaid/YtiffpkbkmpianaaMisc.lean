/-
  BYTES OF CONSTANT STRINGS; lists of byte slices that are only read.
-/
import Derived.Test.YtiffpkbkmpianaaBytes
import Derived.Test.YtiffpkbkmpianaaOpen
namespace Go.Proofs.Ytiffpkbkmpianaa.X
open Go Go.RowKit
set_option linter.unusedVariables false
section
variable {P : Program} {n : Nat} {ops : Array Oper} {S : World → Prop} {K : Env → World → Prop} {rest : List (Oper × Nat × Bool)} {ρ : Env} {w w0 : World} {L : List HP}
variable {d : Nat} {ty : TypeId} {pos : String} {af : Array Edge} {held : Nat} {need : Bool} {x y : Operand}
/-- '[]byte("..")' of a constant: a row that is written out gets its mark -/
theorem x_mark {t e : TypeId} {b len cap : Nat} {C : Array Value} (ht : P.underlying t = some (.slice e)) (he : P.underlying e = some (.int .u8)) (hs : Sat w0 w (Blk b (.cells C e (0, 0)) :: L)) (hx : ev ρ x = .slice (some ⟨b, 0, none⟩) len cap)
    (h : ∀ w', Sat w0 w' (Blk b (.cells C e (C.size, C.size + 1)) :: L) → (need = true → S w') ∧ RX P n ops S K rest (upd n ρ d (.slice (some ⟨b, 0, none⟩) len cap)) w') :
    RX P n ops S K ((⟨some d, .convert t t x, ty, pos, af, none⟩, 0, need) :: rest) ρ w := by
  have hsh : w.shape? b = some (e, C.size) := by simp [World.shape?, hs.blk]
  have hblk : (w.freeze ⟨b, C.size, none⟩ 1).heap[b]? = some (.cells C e (C.size, C.size + 1)) := by
    unfold World.freeze
    rw [if_neg (by decide)]
    show (w.heap.modify b _)[b]? = _
    have hb := hs.blk
    rw [Array.getElem?_modify, hb]
    simp
  have hoth : ∀ k, k ≠ b → (w.freeze ⟨b, C.size, none⟩ 1).heap[k]? = w.heap[k]? := fun k hk => by
    unfold World.freeze
    rw [if_neg (by decide)]
    show (w.heap.modify b _)[k]? = _
    rw [Array.getElem?_modify, if_neg (Ne.symm hk)]
  have hos : (w.freeze ⟨b, C.size, none⟩ 1).os = w.os ∧ (w.freeze ⟨b, C.size, none⟩ 1).tape = w.tape ∧ (w.freeze ⟨b, C.size, none⟩ 1).output = w.output ∧ (w.freeze ⟨b, C.size, none⟩ 1).heap.size = w.heap.size := by
    unfold World.freeze
    rw [if_neg (by decide)]
    exact ⟨rfl, rfl, rfl, by simp⟩
  obtain ⟨h2, h3⟩ := h _ (hs.write hos.1 hos.2.1 hos.2.2.1 hos.2.2.2 hoth hblk)
  refine x_turn rfl ?_ h2 h3
  have hr : (convert t t (.slice (some ⟨b, 0, none⟩) len cap)).run P w = .ok (.slice (some ⟨b, 0, none⟩) len cap) (w.freeze ⟨b, C.size, none⟩ 1) := by
    simp [convert, run_underlying ht, run_underlying he, markStringish, hsh]
  simp [execOp, hx, hr]
theorem rd_blkF {b e len size : Nat} {cells : Array Value} {z : Nat × Nat} (hs : Sat w0 w (Blk b (.cells cells e z) :: L)) (hl : cells.size = len * size) : RD w size (.slice (some ⟨b, 0, none⟩) len len) len cells.toList := by
  refine ⟨by simpa using hl, _, _, rfl, Nat.le_refl _, (fun h => nomatch h), fun ad h => ?_⟩
  obtain rfl : (⟨b, 0, none⟩ : Addr) = ad := by simpa using h
  refine ⟨fun _ => rfl, fun j u hu => ?_⟩
  rw [Addr.add_lit, Nat.zero_add]
  exact hs.cell (by simpa using hu)
/-- remainders, quotients -/
theorem x_rem {xt yt : TypeId} {k : IntKind} (a b : Int) (hx : ev ρ x = .int k a) (hy : ev ρ y = .int k b) (hb : b ≠ 0) (h : RX P n ops S K rest (upd n ρ d (.int k (a.tmod b))) w) (hn : (Nat.blt held 3 && (Nat.blt 0 held || !need)) = true := by rfl) :
    RX P n ops S K ((⟨some d, .binOp .rem xt x y yt, ty, pos, af, none⟩, held, need) :: rest) ρ w :=
  x_pure rfl hn (run_binInt .rem k k a b _ hx hy (fun w => by simp [binOp, Op.intDiv, hb])) h
theorem x_quo {xt yt : TypeId} {k : IntKind} (a b : Int) (hx : ev ρ x = .int k a) (hy : ev ρ y = .int k b) (hb : b ≠ 0) (h1 : lo k ≤ a.tdiv b) (h2 : a.tdiv b ≤ hi k) (h : RX P n ops S K rest (upd n ρ d (.int k (a.tdiv b))) w) (hn : (Nat.blt held 3 && (Nat.blt 0 held || !need)) = true := by rfl) :
    RX P n ops S K ((⟨some d, .binOp .quo xt x y yt, ty, pos, af, none⟩, held, need) :: rest) ρ w :=
  x_pure rfl hn (run_binInt .quo k k a b _ hx hy (fun w => by simp [binOp, Op.intDiv, hb, wrap_fits h1 h2])) h
/-- a store of one cell into a row that is owned -/
theorem x_storeRow {t : TypeId} {e size k b off c j : Nat} {xs : List Value} (hs : Sat w0 w (Row e size (.slice (some ⟨b, off, none⟩) k c) k xs :: L)) (h1 : One P t) (v : Value)
    (hx : ev ρ x = .pointer (some ⟨b, off + j, none⟩)) (hy : ev ρ y = v) (hv : v.oneCell' = true) (hj : j < k * size)
    (h : ∀ w', Sat w0 w' (Row e size (.slice (some ⟨b, off, none⟩) k c) k (xs.set j v) :: L) → (need = true → S w') ∧ RX P n ops S K rest ρ w') :
    RX P n ops S K ((⟨none, .store t x y, ty, pos, af, none⟩, 0, need) :: rest) ρ w := by
  rcases hs.row with ⟨h0, _⟩ | ⟨b', off', cap, cur, e1, g1, g2, g3, g4, hb⟩
  · cases h0
  · cases e1
    have hm : k * size ≤ c * size := Nat.mul_le_mul_right _ g1
    have hi : off + j < cur.size := by omega
    have hc : w.cell? ⟨b, off + j, none⟩ = some cur[off + j] := hb.cell (Array.getElem?_eq_getElem hi)
    have hf : w.frozen? ⟨b, off + j, none⟩ = false := frozen_of_row w b _ cur e hb.blk
    have hb' := hb.setCell (i := off + j) v
    have hrow : Sat w0 (w.setCell ⟨b, off + j, none⟩ v) (Row e size (.slice (some ⟨b, off, none⟩) k c) k (xs.set j v) :: L) := by
      refine hb'.rowOf g1 g2 (by simpa using g3) ?_
      subst g4
      rw [Array.toList_setIfInBounds, List.drop_set, if_neg (by omega), ← List.take_set]
      congr 2
      omega
    obtain ⟨h2, h3⟩ := h _ hrow
    exact x_act rfl (by simp [execOp, hx, hy, run_store1 h1 hv hc hf]) h2 h3
end
/-- a slice of slices of bytes, as far as it is read -/
def RBB (w : World) (v : Value) (ls : List (List UInt8)) : Prop := ∃ vs : List Value, RD w 1 v ls.length vs ∧ ∀ (i : Nat) (u : Value) (b : List UInt8), vs[i]? = some u → ls[i]? = some b → RB w u b
theorem RBB.heapEq {w w' : World} {v : Value} {ls : List (List UInt8)} (h : RBB w v ls) (hh : w'.heap = w.heap) : RBB w' v ls := by
  obtain ⟨vs, h1, h2⟩ := h
  exact ⟨vs, h1.heapEq hh, fun i u b h3 h4 => (h2 i u b h3 h4).heapEq hh⟩
theorem RBB.val {w : World} {v : Value} {ls : List (List UInt8)} (h : RBB w v ls) : ∃ ao c, v = .slice ao ls.length c := let ⟨_, h1, _⟩ := h; h1.val
/-- number i of it, where it lies and what it reads as -/
theorem RBB.get {w : World} {ao : Option Addr} {c : Nat} {ls : List (List UInt8)} (h : RBB w (.slice ao ls.length c) ls) {i : Nat} {b : List UInt8} (hi : ls[i]? = some b) :
    ∃ g o a' c', ao = some ⟨g, o, none⟩ ∧ w.cell? ⟨g, o + i * 1, none⟩ = some (.slice a' b.length c') ∧ RB w (.slice a' b.length c') b := by
  obtain ⟨vs, h1, h2⟩ := h
  have hil : i < ls.length := (List.getElem?_eq_some_iff.1 hi).1
  obtain ⟨g, o, rfl⟩ := h1.addr (by omega)
  have hvl : vs.length = ls.length := by have := h1.1; omega
  obtain ⟨u, hu⟩ : ∃ u, vs[i]? = some u := ⟨vs[i]'(by omega), List.getElem?_eq_getElem _⟩
  have hrb := h2 i u b hu hi
  obtain ⟨a', c', rfl⟩ := hrb.val
  exact ⟨g, o, a', c', rfl, by rw [Nat.mul_one]; exact h1.cell hu, hrb⟩
theorem RBB.below {w w' : World} {v : Value} {ls : List (List UInt8)} (h : RBB w v ls) (hb : Below w.heap.size w w') : RBB w' v ls := by
  obtain ⟨vs, h1, h2⟩ := h
  exact ⟨vs, h1.below hb, fun i u b h3 h4 => RD.below (h2 i u b h3 h4) hb⟩
/-- a slice of slices of bytes that came in -/
theorem TR.bytess {H : Type} {enc : TypeId × Value → H} {P : Program} {w : World} {t e b : TypeId} {cs : List Value} (hu : P.underlying t = some (.slice e)) (he : P.underlying e = some (.slice b)) (hb : P.underlying b = some (.int .u8)) (hz : P.cellsOf e = 1) (hz' : P.cellsOf b = 1) (h : TR enc P w t cs) :
    ∃ v, ∃ ls : List (List UInt8), cs = [v] ∧ RBB w v ls ∧ ls.length ≤ maxLen ∧ ∀ l ∈ ls, l.length ≤ maxLen := by
  obtain ⟨v, n, rows, rfl, hrd, hl, hm, hall⟩ := h.slice (k := 1) hu hz (by decide)
  obtain ⟨l, rfl, hok⟩ := rows_data (cells := fun x : Value × List UInt8 => [x.1]) (ok := fun x => RB w x.1 x.2 ∧ x.2.length ≤ maxLen) (fun r (hr : r.length = 1 ∧ TR enc P w e r) => by
    obtain ⟨u, b, rfl, h2, h3⟩ := hr.2.bytes he hb hz'
    exact ⟨(u, b), rfl, h2, h3⟩) rows hall
  rw [List.length_map] at hl
  subst hl
  rw [flatten_single (fun x : Value × List UInt8 => x.1)] at hrd
  refine ⟨v, l.map (·.2), rfl, ⟨l.map (·.1), by simpa using hrd, fun i u b h1 h2 => ?_⟩, by simpa using hm, fun b hb => ?_⟩
  · rw [List.getElem?_map] at h1 h2
    obtain ⟨x, hx, rfl⟩ := Option.map_eq_some_iff.1 h1
    rw [hx] at h2
    cases h2
    exact (hok x (List.mem_of_getElem? hx)).1
  · obtain ⟨x, hx, rfl⟩ := List.mem_map.1 hb
    exact (hok x hx).2
theorem RBB.nil (w : World) : RBB w (.slice none 0 0) [] := ⟨[], ⟨rfl, none, 0, rfl, Nat.le_refl _, fun _ => rfl, (fun _ h => nomatch h)⟩, fun i u b h _ => by simp at h⟩
end Go.Proofs.Ytiffpkbkmpianaa.X
