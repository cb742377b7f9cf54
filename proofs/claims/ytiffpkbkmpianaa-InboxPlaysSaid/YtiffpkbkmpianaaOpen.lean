/-
  ARGUMENTS THAT CAME IN: what a walk needs to know of them, off the form's own reading. It speaks of no program.
-/
import Derived.Test.YtiffpkbkmpianaaMore
import Derived.ProofKit
import Derived.Deep.Slices
import Derived.OpenShut
import Derived.ChangeOld
namespace Go.Proofs.Ytiffpkbkmpianaa.X
open Go Go.RowKit
set_option linter.unusedVariables false
section
variable {H : Type} {enc : TypeId × Value → H} {P : Program} {w : World}
/-- cells that can be read as a t -/
def TR (enc : TypeId × Value → H) (P : Program) (w : World) (t : TypeId) (cs : List Value) : Prop := ∃ fuel x, DataW.trod enc P w 0 (fun _ => true) true fuel t cs = some x
theorem TR.of {t : TypeId} {v : Value} {d : DataW H} {ps : List MemPlace} (h : DataW.Trod enc P w 0 (fun _ => true) true t v d ps) : TR enc P w t v.cells.toList := by
  obtain ⟨fuel, hf⟩ := h
  exact ⟨fuel, _, hf⟩
theorem wf_lohi {k : IntKind} {n : Int} (h : (Lit.int k n).wf = true) : lo k ≤ n ∧ n ≤ hi k := by
  cases k <;> simp [Lit.wf, IntKind.min, IntKind.max, IntKind.signed, IntKind.bits] at h <;> simpa [lo, hi] using h
theorem TR.int {t : TypeId} {k : IntKind} {cs : List Value} (hu : P.underlying t = some (.int k)) (h : TR enc P w t cs) : ∃ n, cs = [.int k n] ∧ lo k ≤ n ∧ n ≤ hi k := by
  obtain ⟨fuel, x, hf⟩ := h
  obtain ⟨n, rfl, _, hw⟩ := DataW.trod_int hu hf
  exact ⟨n, rfl, wf_lohi hw⟩
/-- an unsigned one, as a natural number -/
theorem TR.nat {t : TypeId} {k : IntKind} {cs : List Value} (hu : P.underlying t = some (.int k)) (hk : uns k = true) (h : TR enc P w t cs) : ∃ n : Nat, cs = [.int k (n : Int)] ∧ (n : Int) ≤ hi k := by
  obtain ⟨n, rfl, h1, h2⟩ := h.int hu
  have h0 : 0 ≤ n := by cases k <;> simp [uns] at hk <;> simpa [lo] using h1
  obtain ⟨m, rfl⟩ := Int.eq_ofNat_of_zero_le h0
  exact ⟨m, rfl, h2⟩
theorem TR.bool {t : TypeId} {cs : List Value} (hu : P.underlying t = some .bool) (h : TR enc P w t cs) : ∃ b, cs = [.bool b] := by
  obtain ⟨fuel, x, hf⟩ := h
  obtain ⟨b, rfl, _⟩ := DataW.trod_bool hu hf
  exact ⟨b, rfl⟩
theorem TR.struct {t : TypeId} {fs : Array Field} {cs : List Value} (hu : P.underlying t = some (.struct fs)) (h : TR enc P w t cs) :
    cs.length = P.cellsOf t ∧ ∀ (i : Nat) (f : Field), fs[i]? = some f → TR enc P w f.type ((cs.drop f.offset).take (P.cellsOf f.type)) := by
  obtain ⟨fuel, x, hf⟩ := h
  obtain ⟨xs, m, rfl, _, hl, hxl, hall⟩ := DataW.trod_struct hu hf
  refine ⟨hl, fun i f hfi => ?_⟩
  have hi : i < fs.size := (Array.getElem?_eq_some_iff.1 hfi).1
  have := hall i f hfi
  rw [List.getElem?_eq_getElem (by omega)] at this
  exact ⟨m, _, this⟩
theorem spot_of_cell {a : Addr} {v : Value} (h : w.cell? a = some v) : a.spot = none := by
  unfold World.cell? at h
  split at h
  · split at h
    · cases h
    · rename_i hs; simpa using hs
  · cases h
theorem flat_rows {k : Nat} : ∀ (rows : List (List Value)), (∀ r ∈ rows, r.length = k) → rows.flatten.length = rows.length * k
  | [], _ => by simp
  | r :: rows, h => by
    have h1 := flat_rows rows fun r hr => h r (by simp [hr])
    have h2 := h r (by simp)
    simp only [List.flatten_cons, List.length_append, List.length_cons, h1, h2, Nat.add_mul, Nat.one_mul]
    omega
theorem flat_get {k : Nat} : ∀ (rows : List (List Value)) (j : Nat) (u : Value), (∀ r ∈ rows, r.length = k) → rows.flatten[j]? = some u → ∃ i q r, rows[i]? = some r ∧ r[q]? = some u ∧ j = i * k + q
  | [], j, u, _, h => by simp at h
  | r :: rows, j, u, hl, h => by
    have h2 := hl r (by simp)
    simp only [List.flatten_cons] at h
    by_cases hj : j < k
    · rw [List.getElem?_append_left (by omega)] at h
      exact ⟨0, j, r, rfl, h, by omega⟩
    · rw [List.getElem?_append_right (by omega)] at h
      obtain ⟨i, q, r', h3, h4, h5⟩ := flat_get rows _ u (fun r hr => hl r (by simp [hr])) h
      exact ⟨i + 1, q, r', by simpa using h3, h4, by rw [Nat.add_mul]; omega⟩
theorem flat_at {k : Nat} : ∀ {rows : List (List Value)} {i q : Nat} {r : List Value} {u : Value}, (∀ r ∈ rows, r.length = k) → rows[i]? = some r → r[q]? = some u → rows.flatten[i * k + q]? = some u
  | [], i, q, r, u, _, h, _ => by simp at h
  | r0 :: rows, 0, q, r, u, hl, h, hq => by
    simp only [List.getElem?_cons_zero, Option.some.injEq] at h
    subst h
    have := (List.getElem?_eq_some_iff.1 hq).1
    rw [List.flatten_cons, Nat.zero_mul, Nat.zero_add, List.getElem?_append_left this]
    exact hq
  | r0 :: rows, i + 1, q, r, u, hl, h, hq => by
    have h0 := hl r0 (by simp)
    rw [List.flatten_cons, List.getElem?_append_right (by rw [h0, Nat.add_mul]; omega), h0, show (i + 1) * k + q - k = i * k + q from by rw [Nat.add_mul]; omega]
    exact flat_at (fun r hr => hl r (by simp [hr])) (by simpa using h) hq
theorem TR.slice {t e : TypeId} {k : Nat} {cs : List Value} (hu : P.underlying t = some (.slice e)) (hz : P.cellsOf e = k) (hk : 0 < k) (h : TR enc P w t cs) :
    ∃ v n rows, cs = [v] ∧ RD w k v n (List.flatten rows) ∧ rows.length = n ∧ n ≤ maxLen ∧ ∀ r ∈ rows, r.length = k ∧ TR enc P w e r := by
  obtain ⟨fuel, x, hf⟩ := h
  rcases Deep.open_slice hu hf with ⟨rfl, _⟩ | ⟨a, len, cap, m, n, D, Pl, rfl, _, hlc, hcm, hm, _, hall⟩
  · exact ⟨_, 0, [], rfl, ⟨by simp, none, 0, rfl, Nat.le_refl _, fun _ => rfl, fun ad h => by cases h⟩, rfl, Nat.zero_le _, fun r hr => by cases hr⟩
  · simp only [if_true] at hm
    subst hm
    rw [hz] at hall
    -- the rows, one by one
    have key : ∀ j, j ≤ len → ∃ rows : List (List Value), rows.length = j ∧ ∀ i r, rows[i]? = some r → r.length = k ∧ TR enc P w e r ∧ ∀ q u, r[q]? = some u → w.cell? ((a.add (i * k)).add q) = some u := by
      intro j
      induction j with
      | zero => exact fun _ => ⟨[], rfl, fun i r h => by simp at h⟩
      | succ j ih =>
        intro hj
        obtain ⟨rows, hl, hr⟩ := ih (by omega)
        obtain ⟨cs', h1, h2⟩ := hall j (by omega)
        obtain ⟨_, h3, h4⟩ := World.cells?_some h1
        refine ⟨rows ++ [cs'], by simp [hl], fun i r hir => ?_⟩
        by_cases hi : i < rows.length
        · rw [List.getElem?_append_left hi] at hir
          exact hr i r hir
        · rw [List.getElem?_append_right (by omega)] at hir
          have hi0 : i - rows.length = 0 := by
            rcases Nat.eq_zero_or_pos (i - rows.length) with h | h
            · exact h
            · rw [List.getElem?_eq_none (by simp; omega)] at hir; cases hir
          rw [hi0] at hir
          obtain rfl : cs' = r := by simpa using hir
          obtain rfl : i = j := by omega
          refine ⟨h3, ⟨n, _, h2⟩, fun q u hq => ?_⟩
          have hqk : q < k := by rw [← h3]; exact (List.getElem?_eq_some_iff.1 hq).1
          rw [h4 q hqk]; exact hq
    obtain ⟨rows, hl, hr⟩ := key len (Nat.le_refl _)
    have hrk : ∀ r ∈ rows, r.length = k := fun r hm => by
      obtain ⟨i, hi, rfl⟩ := List.mem_iff_getElem.1 hm
      exact (hr i _ (List.getElem?_eq_getElem hi)).1
    have hspot : 0 < m → a.spot = none := fun hc => by
      obtain ⟨cs', h1, _⟩ := hall 0 hc
      obtain ⟨_, h3, h4⟩ := World.cells?_some h1
      have h5 := h4 0 hk
      obtain ⟨c0, hc0⟩ : ∃ c0, cs'[0]? = some c0 := ⟨cs'[0]'(by omega), List.getElem?_eq_getElem (by omega)⟩
      rw [hc0] at h5
      have := spot_of_cell h5
      simpa [Addr.add] using this
    refine ⟨_, len, rows, rfl, ⟨by rw [flat_rows rows hrk, hl], some a, m, rfl, hlc, (fun h => nomatch h), fun ad had => ?_⟩, hl, by omega, fun r hm => ?_⟩
    · obtain rfl : a = ad := by simpa using had
      refine ⟨fun hp => hspot (by omega), fun j u hj => ?_⟩
      obtain ⟨i, q, r, h1, h2, rfl⟩ := flat_get rows j u hrk hj
      have h3 := (hr i r h1).2.2 q u h2
      have hil : i < len := by rw [← hl]; exact (List.getElem?_eq_some_iff.1 h1).1
      have hsp := hspot (by omega)
      obtain ⟨b, o, sp⟩ := a
      subst hsp
      rw [Addr.add_lit, Addr.add_lit] at h3
      rw [Addr.add_lit, ← Nat.add_assoc]
      exact h3
    · obtain ⟨i, hi, rfl⟩ := List.mem_iff_getElem.1 hm
      have := hr i _ (List.getElem?_eq_getElem hi)
      exact ⟨this.1, this.2.1⟩
/-- rows that are told by data -/
theorem rows_data {α : Type} {p : List Value → Prop} {cells : α → List Value} {ok : α → Prop} (hp : ∀ r, p r → ∃ a, r = cells a ∧ ok a) : ∀ (rows : List (List Value)), (∀ r ∈ rows, p r) → ∃ l : List α, rows = l.map cells ∧ ∀ a ∈ l, ok a
  | [], _ => ⟨[], rfl, fun a h => by cases h⟩
  | r :: rows, h => by
    obtain ⟨a, rfl, ha⟩ := hp r (h r (by simp))
    obtain ⟨l, rfl, hl⟩ := rows_data hp rows fun r hr => h r (by simp [hr])
    exact ⟨a :: l, rfl, fun b hb => by
      rcases List.mem_cons.1 hb with rfl | hb
      · exact ha
      · exact hl b hb⟩
theorem flatten_single {α : Type} (f : α → Value) : ∀ (l : List α), (l.map fun a => [f a]).flatten = l.map f
  | [] => rfl
  | a :: l => by simp [flatten_single f l]
/-- a slice of numbers -/
theorem TR.nats {t e : TypeId} {k : IntKind} {cs : List Value} (hu : P.underlying t = some (.slice e)) (he : P.underlying e = some (.int k)) (hz : P.cellsOf e = 1) (hk : uns k = true) (h : TR enc P w t cs) :
    ∃ v, ∃ l : List Nat, cs = [v] ∧ RD w 1 v l.length (l.map fun n => .int k (n : Nat)) ∧ l.length ≤ maxLen ∧ ∀ n ∈ l, (n : Int) ≤ hi k := by
  obtain ⟨v, n, rows, rfl, hrd, hl, hm, hall⟩ := h.slice hu hz (by decide)
  obtain ⟨l, rfl, hok⟩ := rows_data (cells := fun n : Nat => [Value.int k (n : Nat)]) (ok := fun n => (n : Int) ≤ hi k) (fun r (hr : r.length = 1 ∧ TR enc P w e r) => by
    obtain ⟨m, rfl, h2⟩ := hr.2.nat he hk
    exact ⟨m, rfl, h2⟩) rows hall
  rw [flatten_single] at hrd
  have hl' : l.length = n := by simpa using hl
  exact ⟨v, l, rfl, by rw [hl']; exact hrd, by omega, hok⟩
/-- a slice of bytes -/
theorem TR.bytes {t e : TypeId} {cs : List Value} (hu : P.underlying t = some (.slice e)) (he : P.underlying e = some (.int .u8)) (hz : P.cellsOf e = 1) (h : TR enc P w t cs) :
    ∃ v l, cs = [v] ∧ RB w v l ∧ l.length ≤ maxLen := by
  obtain ⟨v, l, rfl, hrd, hm, hall⟩ := h.nats hu he hz rfl
  have hb : ∀ n ∈ l, n < 256 := fun n hn => by have := hall n hn; simp only [hi] at this; omega
  refine ⟨v, l.map UInt8.ofNat, rfl, ?_, by simpa using hm⟩
  unfold RB
  have e : bv (l.map UInt8.ofNat) = l.map fun n => .int .u8 (n : Nat) := by
    unfold bv
    rw [List.map_map]
    refine List.map_congr_left fun n hn => ?_
    have := hb n hn
    simp [Nat.mod_eq_of_lt this]
  rw [e, List.length_map]
  exact hrd
/-- the walk of a law: from the world in which it begins -/
theorem law_of {f : FuncId} {args : Array Value} {v : Value} (h : ∀ w1, Sat w w1 [Init w] → Calls P f args w1 fun e w' => e = .returned v ∧ Sat w w' [Init w]) :
    Calls P f args w fun e w' => e = .returned v ∧ Below w.heap.size w w' :=
  (h w (Sat.begin w)).mono fun _ _ ⟨he, hs⟩ => ⟨he, hs.init⟩
end
end Go.Proofs.Ytiffpkbkmpianaa.X
