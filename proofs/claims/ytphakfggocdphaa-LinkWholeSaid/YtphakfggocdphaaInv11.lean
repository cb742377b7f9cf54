/-
  LAYER 11, THE PLAIN LAW: what holds of a sender's state in a script; what is told; how often.
-/
import Derived.Test.YtphakfggocdphaaRef11b
import Derived.Test.YtphakfggocdphaaDat
namespace Go.Proofs.Ytphakfggocdphaa.X
open Go Go.RowKit
set_option linter.unusedVariables false
/-- P: how many were put; K: a bound of the counts -/
structure SSt.inv (s : SSt) (P K : Nat) : Prop where
  base1 : 1 ≤ s.base
  puts : s.base + s.wait.length ≤ 1 + P
  len : s.wait.length ≤ 128
  each : ∀ l ∈ s.wait, l.length ≤ 4096
  told : s.told < 2 ^ s.wait.length
  told' : s.told < 4294967296
  ever : s.ever < 4294967296
  once : s.once ≤ K
  more : s.more ≤ K
theorem SSt.new_inv : SSt.new.inv 0 0 := ⟨Nat.le_refl _, Nat.le_refl _, by decide, fun l h => (nomatch h), by decide, by decide, by decide, by decide, by decide⟩
theorem SSt.inv.ok {s : SSt} {P K : Nat} (h : s.inv P K) (hP : P ≤ 1000000) (hK : K ≤ 1000000) : s.ok := by
  have h1 := h.puts
  have h2 := h.once
  have h3 := h.more
  exact ⟨by omega, h.len, h.each, h.told', h.ever, by omega, by omega⟩
theorem SSt.inv.mono {s : SSt} {P K P' K' : Nat} (h : s.inv P K) (hP : P ≤ P') (hK : K ≤ K') : s.inv P' K' := by
  have h1 := h.puts
  have h2 := h.once
  have h3 := h.more
  exact ⟨h.base1, by omega, h.len, h.each, h.told, h.told', h.ever, by omega, by omega⟩
theorem SSt.inv.tick {s : SSt} {P K : Nat} (h : s.inv P K) : s.tick.inv P K := ⟨h.base1, h.puts, h.len, h.each, Nat.two_pow_pos _, (by decide : (0:Nat) < 4294967296), h.ever, h.once, h.more⟩
theorem SSt.inv.put {s : SSt} {P K : Nat} (h : s.inv P K) (b : List UInt8) : (s.put b).2.inv (P + 1) K := by
  unfold SSt.put
  by_cases h1 : 4096 < b.length
  · rw [if_pos h1]; exact h.mono (by omega) (Nat.le_refl _)
  · rw [if_neg h1]
    by_cases h2 : 128 ≤ s.wait.length
    · rw [if_pos h2]; exact h.mono (by omega) (Nat.le_refl _)
    · rw [if_neg h2]
      have hp := h.puts
      refine ⟨h.base1, by simp; omega, by simp; omega, fun l hl => ?_, ?_, h.told', h.ever, h.once, h.more⟩
      · rcases List.mem_append.1 hl with hl | hl
        · exact h.each l hl
        · simp at hl; subst hl; omega
      · exact Nat.lt_of_lt_of_le h.told (Nat.pow_le_pow_right (by decide) (by simp))
theorem shr_lt {t n k : Nat} (h : t < 2 ^ n) (hk : k ≤ n) : t >>> k < 2 ^ (n - k) := by
  rw [Nat.shiftRight_eq_div_pow]
  refine Nat.div_lt_of_lt_mul ?_
  rw [← Nat.pow_add, Nat.add_sub_cancel' hk]
  exact h
theorem shr_le (t k : Nat) : t >>> k ≤ t := by
  rw [Nat.shiftRight_eq_div_pow]
  exact Nat.div_le_self _ _
theorem SSt.inv.ack {s : SSt} {P K : Nat} (h : s.inv P K) (u : Nat) : (s.ack u).2.inv P K := by
  unfold SSt.ack
  by_cases h1 : u < s.base ∨ s.base + s.wait.length ≤ u
  · rw [if_pos h1]; exact h
  · rw [if_neg h1]
    have hp := h.puts
    refine ⟨by dsimp only; omega, by simp; omega, by have := h.len; simp; omega, fun l hl => h.each l (List.mem_of_mem_drop hl), ?_, Nat.lt_of_le_of_lt (shr_le _ _) h.told', Nat.lt_of_le_of_lt (shr_le _ _) h.ever, h.once, h.more⟩
    rw [List.length_drop]
    exact shr_lt h.told (by omega)
theorem dueD_told {s : SSt} (h : s.told < 2 ^ s.wait.length) : ∀ i, i ≤ s.wait.length → (s.dueD i).told < 2 ^ s.wait.length
  | 0, _ => h
  | i + 1, hi => by
    have ih := dueD_told h i (by omega)
    have h2 : 1 <<< i < 2 ^ s.wait.length := by
      rw [Nat.one_shiftLeft]
      exact Nat.pow_lt_pow_right (by decide) (by omega)
    rw [show s.dueD (i + 1) = s.dueStep i (s.dueD i) from rfl]
    unfold SSt.dueStep
    split
    · split
      · exact Nat.or_lt_two_pow ih h2
      · exact Nat.or_lt_two_pow ih h2
    · exact ih
theorem SSt.inv.due {s : SSt} {P K : Nat} (h : s.inv P K) (hP : P ≤ 1000000) (hK : K ≤ 1000000) : s.due.2.inv P (K + 16) := by
  obtain ⟨d1, d2, d3, d4, d5⟩ := dueD_ok (h.ok hP hK) (min 16 s.wait.length) (Nat.min_le_left _ _)
  have h1 := h.once
  have h2 := h.more
  have h3 := Nat.min_le_left 16 s.wait.length
  exact ⟨h.base1, h.puts, h.len, h.each, dueD_told h.told _ (Nat.min_le_right _ _), d1, d2, by show (s.dueD _).once ≤ _; omega, by show (s.dueD _).more ≤ _; omega⟩
theorem due_len {s : SSt} {P K : Nat} (h : s.inv P K) (hP : P ≤ 1000000) (hK : K ≤ 1000000) : s.due.1.length ≤ 16 := by
  obtain ⟨d1, d2, d3, d4, d5⟩ := dueD_ok (h.ok hP hK) (min 16 s.wait.length) (Nat.min_le_left _ _)
  have h3 := Nat.min_le_left 16 s.wait.length
  show (s.dueD _).out.length ≤ 16
  omega
/-! ### what is told rises, and has not arrived -/
theorem dueD_seq (s : SSt) : ∀ i, (∀ (k : Nat) (p : Item), (s.dueD i).out[k]? = some p → s.base ≤ p.1 ∧ p.1 < s.base + i) ∧ ∀ (k : Nat) (p q : Item), (s.dueD i).out[k]? = some p → (s.dueD i).out[k + 1]? = some q → p.1 < q.1
  | 0 => ⟨fun k p h => by simp [SSt.dueD] at h, fun k p q h => by simp [SSt.dueD] at h⟩
  | i + 1 => by
    obtain ⟨h1, h2⟩ := dueD_seq s i
    have key : ∀ l : List Item, l = (s.dueD i).out ++ [(s.base + i, s.wait.getD i [])] → (∀ (k : Nat) (p : Item), l[k]? = some p → s.base ≤ p.1 ∧ p.1 < s.base + (i + 1)) ∧ ∀ (k : Nat) (p q : Item), l[k]? = some p → l[k + 1]? = some q → p.1 < q.1 := by
      rintro l rfl
      refine ⟨fun k p hk => ?_, fun k p q hk hq => ?_⟩
      · rw [List.getElem?_append] at hk
        split at hk
        · have := h1 k p hk; omega
        · have e := (List.getElem?_eq_some_iff.1 hk).1
          have : k - (s.dueD i).out.length = 0 := by simp at e; omega
          rw [this] at hk
          simp at hk
          subst hk
          dsimp only
          omega
      · rw [List.getElem?_append] at hk hq
        split at hq
        · rw [if_pos (by omega)] at hk
          exact h2 k p q hk hq
        · have e := (List.getElem?_eq_some_iff.1 hq).1
          have h0 : k + 1 - (s.dueD i).out.length = 0 := by simp at e; omega
          rw [h0] at hq
          simp at hq
          subst hq
          rw [if_pos (by omega)] at hk
          have := h1 k p hk
          dsimp only
          omega
    rw [show s.dueD (i + 1) = s.dueStep i (s.dueD i) from rfl]
    unfold SSt.dueStep
    split
    · split
      · exact key _ rfl
      · exact key _ rfl
    · exact ⟨fun k p hk => by have := h1 k p hk; omega, h2⟩
theorem due_seq (s : SSt) : (∀ (k : Nat) (p : Item), s.due.1[k]? = some p → s.base ≤ p.1 ∧ p.1 < s.base + 16) ∧ ∀ (k : Nat) (p q : Item), s.due.1[k]? = some p → s.due.1[k + 1]? = some q → p.1 < q.1 := by
  obtain ⟨h1, h2⟩ := dueD_seq s (min 16 s.wait.length)
  have h3 := Nat.min_le_left 16 s.wait.length
  exact ⟨fun k p hk => by have := h1 k p hk; omega, h2⟩
/-! ### the counts -/
/-- all up to 'once' were told, and nothing else -/
structure SSt.cnt (s : SSt) : Prop where
  base : s.base ≤ s.once + 1
  ever : s.ever = 2 ^ (s.once + 1 - s.base) - 1
  told : ∀ i, s.told.testBit i = true → s.ever.testBit i = true
theorem SSt.new_cnt : SSt.new.cnt := ⟨by decide, by decide, fun i h => by simp [SSt.new] at h⟩
theorem SSt.cnt.tick {s : SSt} (h : s.cnt) : s.tick.cnt := ⟨h.base, h.ever, fun i hi => by simp [SSt.tick] at hi⟩
theorem SSt.cnt.put {s : SSt} (h : s.cnt) (b : List UInt8) : (s.put b).2.cnt := by
  unfold SSt.put
  split
  · exact h
  · split
    · exact h
    · exact ⟨h.base, h.ever, h.told⟩
theorem SSt.cnt.ack {s : SSt} (h : s.cnt) {u : Nat} (hu : u ≤ s.once) : (s.ack u).2.cnt := by
  unfold SSt.ack
  by_cases h1 : u < s.base ∨ s.base + s.wait.length ≤ u
  · rw [if_pos h1]; exact h
  · rw [if_neg h1]
    have hb := h.base
    refine ⟨by dsimp only; omega, ?_, fun i hi => ?_⟩
    · dsimp only
      rw [h.ever]
      apply Nat.eq_of_testBit_eq
      intro i
      rw [Nat.testBit_shiftRight, Nat.testBit_two_pow_sub_one, Nat.testBit_two_pow_sub_one]
      congr 1
      apply propext
      omega
    · dsimp only at hi ⊢
      rw [Nat.testBit_shiftRight] at hi ⊢
      exact h.told _ hi
/-- in the midst of Due -/
structure DSt.cnt (d : DSt) (bs i o m : Nat) : Prop where
  base : bs ≤ d.once + 1
  ever : d.ever = 2 ^ (d.once + 1 - bs) - 1
  told : ∀ j, d.told.testBit j = true → d.ever.testBit j = true
  upto : i ≤ d.once + 1 - bs
  once : d.once = o
  more : d.more = m
theorem bit_mod (t j : Nat) : t >>> j % 2 = (if t.testBit j then 1 else 0) := by
  rw [Nat.testBit_eq_decide_div_mod_eq, Nat.shiftRight_eq_div_pow]
  rcases Nat.mod_two_eq_zero_or_one (t / 2 ^ j) with h | h <;> simp [h]
theorem dueD_cnt {s : SSt} (h : s.cnt) : ∀ i, (s.dueD i).cnt s.base i (s.rom s.once s.more i).1 (s.rom s.once s.more i).2
  | 0 => ⟨h.base, h.ever, h.told, Nat.zero_le _, rfl, rfl⟩
  | i + 1 => by
    obtain ⟨c1, c2, c3, c4, c5, c6⟩ := dueD_cnt h i
    rw [show s.dueD (i + 1) = s.dueStep i (s.dueD i) from rfl]
    have hr : s.rom s.once s.more (i + 1) = if (s.dueD i).told >>> i % 2 = 0 then (if s.base + i > (s.rom s.once s.more i).1 then (s.base + i, (s.rom s.once s.more i).2) else ((s.rom s.once s.more i).1, (s.rom s.once s.more i).2 + 1)) else s.rom s.once s.more i := rfl
    rw [hr]
    generalize s.dueD i = d at *
    generalize s.rom s.once s.more i = r at *
    obtain ⟨r1, r2⟩ := r
    dsimp only at c5 c6
    subst c5
    subst c6
    have hev : d.ever.testBit i = decide (i < d.once + 1 - s.base) := by rw [c2, Nat.testBit_two_pow_sub_one]
    unfold SSt.dueStep
    by_cases ht : d.told >>> i % 2 = 0
    · rw [if_pos ht, if_pos ht]
      by_cases he : d.ever >>> i % 2 = 0
      · rw [if_pos he]
        rw [bit_mod, hev] at he
        have hlt : ¬ i < d.once + 1 - s.base := by
          intro hh
          simp [hh] at he
        have hi : d.once + 1 - s.base = i := by omega
        rw [if_pos (by dsimp only; omega)]
        have hev2 : d.ever ||| 1 <<< i = 2 ^ (d.once + 1 + 1 - s.base) - 1 := by
          rw [c2, hi, or_ones, show d.once + 1 + 1 - s.base = i + 1 from by omega]
        refine ⟨by dsimp only; omega, by dsimp only; exact hev2, fun j hj => ?_, by dsimp only; omega, by dsimp only; omega, rfl⟩
        dsimp only at hj ⊢
        rw [Nat.testBit_or] at hj ⊢
        rcases Bool.or_eq_true_iff.1 hj with hj | hj
        · rw [c3 j hj]; rfl
        · rw [hj, Bool.or_true]
      · rw [if_neg he]
        rw [bit_mod, hev] at he
        have hlt : i < d.once + 1 - s.base := by
          by_cases hh : i < d.once + 1 - s.base
          · exact hh
          · simp [hh] at he
        rw [if_neg (by dsimp only; omega)]
        refine ⟨c1, c2, fun j hj => ?_, by dsimp only; omega, rfl, rfl⟩
        dsimp only at hj ⊢
        rw [Nat.testBit_or] at hj
        rcases Bool.or_eq_true_iff.1 hj with hj | hj
        · exact c3 j hj
        · rw [Nat.one_shiftLeft, Nat.testBit_two_pow] at hj
          obtain rfl : i = j := of_decide_eq_true hj
          rw [hev]; exact decide_eq_true hlt
    · rw [if_neg ht, if_neg ht]
      have hti : d.told.testBit i = true := by
        rw [bit_mod] at ht
        cases hh : d.told.testBit i with
        | true => rfl
        | false => simp [hh] at ht
      have := c3 i hti
      rw [hev] at this
      have := of_decide_eq_true this
      exact ⟨c1, c2, c3, by omega, rfl, rfl⟩
theorem SSt.cnt.due {s : SSt} (h : s.cnt) : s.due.2.cnt ∧ s.rom s.once s.more (min 16 s.wait.length) = (s.due.2.once, s.due.2.more) := by
  obtain ⟨c1, c2, c3, c4, c5, c6⟩ := dueD_cnt h (min 16 s.wait.length)
  refine ⟨⟨c1, c2, c3⟩, ?_⟩
  rw [← Prod.eta (s.rom _ _ _), ← c5, ← c6]
  rfl
end Go.Proofs.Ytphakfggocdphaa.X
