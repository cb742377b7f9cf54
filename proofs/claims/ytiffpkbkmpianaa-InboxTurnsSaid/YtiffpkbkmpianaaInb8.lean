/-
  LAYER 23: whose turn it is; plain.
-/
import Derived.Test.YtiffpkbkmpianaaInb5
namespace Go.Proofs.Ytiffpkbkmpianaa.X
open Go Go.RowKit
set_option linter.unusedVariables false
set_option maxRecDepth 20000
theorem mget_mset {β : Type} (p q : Key) (v : β) : ∀ t : List (Key × β), mget p (mset q v t) = if p = q then some v else mget p t
  | [] => by simp only [mset, mget]
  | (a, x) :: t => by
    simp only [mset]
    by_cases h : q = a
    · subst h
      rw [if_pos rfl]
      simp only [mget]
      split <;> rfl
    · rw [if_neg h]
      simp only [mget, mget_mset p q v t]
      by_cases h2 : p = a
      · subst h2
        rw [if_pos rfl, if_pos rfl, if_neg (fun e => h e.symm)]
      · rw [if_neg h2, if_neg h2]
theorem mget_wsDone (p : Pid) (n : Nat) (k : Key) : ∀ ws : List (Key × List UInt8), mget k (wsDone p n ws) = if bad p n k then none else mget k ws
  | [] => by simp [wsDone, mget]
  | (a, x) :: ws => by
    have ih := mget_wsDone p n k ws
    unfold wsDone at ih ⊢
    by_cases ha : bad p n a
    · rw [List.filter_cons_of_neg (by simpa using ha), ih]
      by_cases hk : bad p n k
      · rw [if_pos hk, if_pos hk]
      · rw [if_neg hk, if_neg hk]
        simp only [mget]
        rw [if_neg (fun e => hk (by rw [e]; exact ha))]
    · rw [List.filter_cons_of_pos (by simpa using ha)]
      simp only [mget, ih]
      by_cases hk : k = a
      · subst hk
        rw [if_pos rfl, if_neg ha, if_pos rfl]
      · rw [if_neg hk, if_neg hk]
/-- some members, in their order -/
structure Sel (mem all : List Pid) : Prop where
  sub : ∀ p ∈ all, p ∈ mem
  mono : ∀ (a b : Nat) (p q : Pid), a < b → all[a]? = some p → all[b]? = some q → mem.idxOf p < mem.idxOf q
theorem Sel.nil (mem : List Pid) : Sel mem [] := ⟨(fun p h => nomatch h), fun a b p q _ h => by simp at h⟩
theorem Sel.snoc {mem all : List Pid} (h : Sel mem all) {i : Nat} {p : Pid} (hn : mem.Nodup) (hp : mem[i]? = some p) (hi : ∀ q ∈ all, mem.idxOf q < i) : Sel mem (all ++ [p]) ∧ (∀ q ∈ all ++ [p], mem.idxOf q < i + 1) ∧ p ∉ all := by
  have hpi : mem.idxOf p = i := by
    obtain ⟨hil, e⟩ := List.getElem?_eq_some_iff.1 hp
    have hi2 := pix_lt (List.getElem_mem hil)
    rw [e] at hi2
    have e2 : mem[mem.idxOf p] = p := List.getElem_idxOf hi2
    rw [List.nodup_iff_pairwise_ne, List.pairwise_iff_getElem] at hn
    rcases Nat.lt_trichotomy (mem.idxOf p) i with hlt | heq | hlt
    · exact absurd (e2.trans e.symm) (hn _ _ hi2 hil hlt)
    · exact heq
    · exact absurd (e.trans e2.symm) (hn _ _ hil hi2 hlt)
  refine ⟨⟨fun q hq => ?_, fun a b x y hab hx hy => ?_⟩, fun q hq => ?_, fun hm => ?_⟩
  · rcases List.mem_append.1 hq with hq | hq
    · exact h.sub q hq
    · simp at hq; subst hq; exact List.mem_of_getElem? hp
  · by_cases hb : b < all.length
    · rw [List.getElem?_append_left (by omega)] at hx
      rw [List.getElem?_append_left hb] at hy
      exact h.mono a b x y hab hx hy
    · rw [List.getElem?_append_right (by omega)] at hy
      have hb0 : b - all.length = 0 := by
        rcases Nat.eq_zero_or_pos (b - all.length) with h0 | h0
        · exact h0
        · rw [List.getElem?_eq_none (by simp; omega)] at hy; cases hy
      rw [hb0] at hy
      obtain rfl : p = y := by simpa using hy
      rw [List.getElem?_append_left (by omega)] at hx
      rw [hpi]
      exact hi x (List.mem_of_getElem? hx)
  · rcases List.mem_append.1 hq with hq | hq
    · have := hi q hq; omega
    · simp at hq; subst hq; omega
  · have := hi p hm
    omega
/-- putting -/
structure PInv (mem all : List Pid) (R : Nat) (p : Pid) (n : Nat) (s : ISt) : Prop where
  memE : s.mem = mem
  last : s.last = []
  turn : s.turn = 0
  get : ∀ q m, mget (q, m) s.ws = if (q ∈ all ∧ 1 ≤ m ∧ m ≤ R) ∨ (q = p ∧ 1 ≤ m ∧ m < n) then some [] else none
theorem PInv.putC {mem all : List Pid} {R n : Nat} {p : Pid} {s : ISt} (h : PInv mem all R p n s) (hp : p ∈ mem) (hpa : p ∉ all) (h1 : 1 ≤ n) (h6 : n ≤ 6) : X.putC s p n [] = 0 := by
  have hg : mget (p, n) s.ws = none := by rw [h.get, if_neg (by rintro (h | h); exact hpa h.1; omega)]
  unfold X.putC
  rw [h.memE, if_neg (fun h => h hp), if_neg (by simp), h.last, if_neg (by show ¬ n ≤ 0; omega), if_neg (by show ¬ 6 < n - 0; omega), hg]
  rfl
theorem PInv.put {mem all : List Pid} {R n : Nat} {p : Pid} {s : ISt} (h : PInv mem all R p n s) (hp : p ∈ mem) (hpa : p ∉ all) (h1 : 1 ≤ n) (h6 : n ≤ 6) : PInv mem all R p (n + 1) (s.put p n []) := by
  have hc := h.putC hp hpa h1 h6
  unfold ISt.put
  rw [if_pos hc]
  obtain ⟨_, _, _, _, h5⟩ := putC_zero hc
  refine ⟨h.memE, h.last, h.turn, fun q m => ?_⟩
  show mget (q, m) (s.ws ++ [((p, n), [])]) = _
  rw [← mset_new h5, mget_mset, h.get]
  by_cases hk : ((q, m) : Key) = (p, n)
  · cases hk
    rw [if_pos rfl, if_pos (.inr ⟨rfl, h1, by omega⟩)]
  · rw [if_neg hk]
    by_cases hq : q = p
    · subst hq
      have hmn : m ≠ n := fun e => hk (by rw [e])
      by_cases hm : 1 ≤ m ∧ m < n
      · rw [if_pos (.inr ⟨rfl, hm⟩), if_pos (.inr ⟨rfl, hm.1, by omega⟩)]
      · rw [if_neg (by rintro (h | h); exact hpa h.1; exact hm h.2), if_neg (by rintro (h | h); exact hpa h.1; omega)]
    · by_cases hqa : q ∈ all ∧ 1 ≤ m ∧ m ≤ R
      · rw [if_pos (.inl hqa), if_pos (.inl hqa)]
      · rw [if_neg (by rintro (h | h); exact hqa h; exact hq h.1), if_neg (by rintro (h | h); exact hqa h; exact hq h.1)]
theorem PInv.next {mem all : List Pid} {R : Nat} {p : Pid} {s : ISt} (h : PInv mem all R p (R + 1) s) (p' : Pid) : PInv mem (all ++ [p]) R p' 1 s := by
  refine ⟨h.memE, h.last, h.turn, fun q m => ?_⟩
  rw [h.get]
  by_cases hc : (q ∈ all ∧ 1 ≤ m ∧ m ≤ R) ∨ (q = p ∧ 1 ≤ m ∧ m < R + 1)
  · rw [if_pos hc, if_pos (.inl (by rcases hc with hc | hc; exact ⟨List.mem_append.2 (.inl hc.1), hc.2⟩; exact ⟨by simp [hc.1], hc.2.1, by omega⟩))]
  · rw [if_neg hc, if_neg (by
      rintro (h | h)
      · rcases List.mem_append.1 h.1 with h2 | h2
        · exact hc (.inl ⟨h2, h.2⟩)
        · exact hc (.inr ⟨by simpa using h2, h.2.1, by omega⟩)
      · omega)]
theorem PInv.other {mem all : List Pid} {R : Nat} {p : Pid} {s : ISt} (h : PInv mem all R p 1 s) (p' : Pid) : PInv mem all R p' 1 s := by
  refine ⟨h.memE, h.last, h.turn, fun q m => ?_⟩
  rw [h.get]
  by_cases hc : q ∈ all ∧ 1 ≤ m ∧ m ≤ R
  · rw [if_pos (.inl hc), if_pos (.inl hc)]
  · rw [if_neg (by rintro (h | h); exact hc h; omega), if_neg (by rintro (h | h); exact hc h; omega)]
/-- taking turns: round n, number i is next -/
structure TInv (mem all : List Pid) (R n i : Nat) (s : ISt) : Prop where
  memE : s.mem = mem
  get : ∀ q m, mget (q, m) s.ws = if q ∈ all ∧ getN s.last q < m ∧ m ≤ R then some [] else none
  lst : ∀ q, getN s.last q = if q ∈ all.take i then n else if q ∈ all then n - 1 else 0
  t0 : i = 0 → n = 1 → s.turn = 0
  t1 : i = 0 → 1 < n → ∀ q, all[all.length - 1]? = some q → s.turn = mem.idxOf q + 1
  t2 : ∀ j q, i = j + 1 → all[j]? = some q → s.turn = mem.idxOf q + 1
theorem PInv.turns {mem all : List Pid} {R : Nat} {p : Pid} {s : ISt} (h : PInv mem all R p 1 s) : TInv mem all R 1 0 s := by
  refine ⟨h.memE, fun q m => ?_, fun q => ?_, fun _ _ => h.turn, fun _ h => by omega, fun j q h => by omega⟩
  · rw [h.get, h.last]
    show _ = if q ∈ all ∧ 0 < m ∧ m ≤ R then some [] else none
    by_cases hc : q ∈ all ∧ 0 < m ∧ m ≤ R
    · rw [if_pos hc, if_pos (.inl ⟨hc.1, by omega, hc.2.2⟩)]
    · rw [if_neg hc, if_neg (by rintro (h | h); exact hc ⟨h.1, by omega, h.2.2⟩; omega)]
  · rw [h.last]
    show 0 = _
    simp
theorem idx_nodup {l : List Pid} (h : l.Nodup) {j : Nat} (hj : j < l.length) : l.idxOf l[j] = j := by
  have hi := pix_lt (List.getElem_mem hj)
  have e : l[l.idxOf l[j]] = l[j] := List.getElem_idxOf hi
  rw [List.nodup_iff_pairwise_ne, List.pairwise_iff_getElem] at h
  rcases Nat.lt_trichotomy (l.idxOf l[j]) j with hlt | heq | hlt
  · exact absurd e (h _ _ hi hj hlt)
  · exact heq
  · exact absurd e.symm (h _ _ hj hi hlt)
/-- between two of them stands none -/
theorem Sel.gap {mem all : List Pid} (h : Sel mem all) (hn : mem.Nodup) {x : Nat} (hx : x < mem.length) (hg : ∀ (b : Nat) (q : Pid), all[b]? = some q → mem.idxOf q ≠ x) : mem[x] ∉ all := fun hm => by
  obtain ⟨b, hb⟩ := List.mem_iff_getElem?.1 hm
  exact hg b _ hb (idx_nodup hn hx)
theorem TInv.out {mem all : List Pid} {R n i : Nat} {s : ISt} (h : TInv mem all R n i s) {x : Nat} (hx : x < mem.length) (hm : mem[x] ∉ all) : mget (mem.getD x ⟨0, 0⟩, nx (getN s.last (mem.getD x ⟨0, 0⟩))) s.ws = none := by
  rw [h.get, show mem.getD x ⟨0, 0⟩ = mem[x] from by rw [List.getD_eq_getElem?_getD, List.getElem?_eq_getElem hx]; rfl, if_neg (fun hc => hm hc.1)]
theorem TInv.next {mem all : List Pid} {R n i : Nat} {s : ISt} (h : TInv mem all R n i s) (hS : Sel mem all) (hn : mem.Nodup) (h1 : 1 ≤ n) (hR : n ≤ R) (hR6 : R ≤ 6) {p : Pid} (hp : all[i]? = some p) : s.next = ⟨p, n, [], true⟩ := by
  have hil : i < all.length := (List.getElem?_eq_some_iff.1 hp).1
  have hpm := hS.sub p (List.mem_of_getElem? hp)
  have hu := pix_lt hpm
  have hgu : mem[mem.idxOf p] = p := List.getElem_idxOf hu
  have hpt : p ∉ all.take i := fun hm => by
    obtain ⟨b, hb⟩ := List.mem_iff_getElem?.1 hm
    have hbi : b < i := by have := (List.getElem?_eq_some_iff.1 hb).1; rw [List.length_take] at this; omega
    rw [List.getElem?_take_of_lt hbi] at hb
    have := hS.mono b i p p hbi hb hp
    omega
  have hlp : getN s.last p = n - 1 := by rw [h.lst, if_neg hpt, if_pos (List.mem_of_getElem? hp)]
  have hnx : nx (n - 1) = n := by unfold nx; omega
  have hhit : mget (p, nx (getN s.last p)) s.ws = some [] := by rw [hlp, hnx, h.get, hlp, if_pos ⟨List.mem_of_getElem? hp, by omega, hR⟩]
  have hcand : ∀ j, (s.turn + j) % mem.length = mem.idxOf p → cand mem (getN s.last) s.turn j = (p, nx (getN s.last p)) := fun j hj => by
    unfold cand
    rw [hj, show mem.getD (mem.idxOf p) ⟨0, 0⟩ = p from by rw [List.getD_eq_getElem?_getD, List.getElem?_eq_getElem hu, hgu]; rfl]
  have main : ∀ j0, j0 < mem.length → (s.turn + j0) % mem.length = mem.idxOf p → (∀ j, j < j0 → ∀ (b : Nat) (q : Pid), all[b]? = some q → mem.idxOf q ≠ (s.turn + j) % mem.length) → s.next = ⟨p, n, [], true⟩ := fun j0 hj0 he hg => by
    have hr := nextR_some (ws := s.ws) (d := []) (turn := s.turn) (mem := mem) (A := getN s.last) hj0 (fun j hj => by
      have hx : (s.turn + j) % mem.length < mem.length := Nat.mod_lt _ (by omega)
      exact h.out hx (hS.gap hn hx (hg j hj))) (by rw [hcand j0 he]; exact hhit)
    rw [hcand j0 he, hlp, hnx] at hr
    unfold ISt.next
    rw [h.memE]
    exact hr
  by_cases hi0 : i = 0
  · subst hi0
    by_cases hn1 : n = 1
    · have ht := h.t0 rfl hn1
      refine main (mem.idxOf p) hu (by rw [ht, Nat.zero_add, Nat.mod_eq_of_lt hu]) fun j hj b q hb => ?_
      rw [ht, Nat.zero_add, Nat.mod_eq_of_lt (by omega)]
      rcases Nat.eq_zero_or_pos b with rfl | hb0
      · rw [hp] at hb; cases hb; omega
      · have := hS.mono 0 b p q hb0 hp hb
        omega
    · obtain ⟨z, hz⟩ : ∃ z, all[all.length - 1]? = some z := ⟨all[all.length - 1]'(by omega), List.getElem?_eq_getElem _⟩
      have ht := h.t1 rfl (by omega) z hz
      have hzl := pix_lt (hS.sub z (List.mem_of_getElem? hz))
      have hzp : mem.idxOf p ≤ mem.idxOf z := by
        rcases Nat.eq_zero_or_pos (all.length - 1) with h0 | h0
        · rw [h0, hp] at hz; cases hz; exact Nat.le_refl _
        · exact Nat.le_of_lt (hS.mono 0 _ p z h0 hp hz)
      refine main (mem.length - s.turn + mem.idxOf p) (by omega) (by rw [show s.turn + (mem.length - s.turn + mem.idxOf p) = mem.idxOf p + mem.length from by omega, Nat.add_mod_right, Nat.mod_eq_of_lt hu]) fun j hj b q hb => ?_
      have hqz : mem.idxOf q ≤ mem.idxOf z := by
        have hbl := (List.getElem?_eq_some_iff.1 hb).1
        by_cases hbz : b = all.length - 1
        · rw [hbz, hz] at hb; cases hb; exact Nat.le_refl _
        · exact Nat.le_of_lt (hS.mono b _ q z (by omega) hb hz)
      have hqp : mem.idxOf p ≤ mem.idxOf q := by
        rcases Nat.eq_zero_or_pos b with rfl | hb0
        · rw [hp] at hb; cases hb; exact Nat.le_refl _
        · exact Nat.le_of_lt (hS.mono 0 b p q hb0 hp hb)
      by_cases hjl : s.turn + j < mem.length
      · rw [Nat.mod_eq_of_lt hjl]; omega
      · rw [show s.turn + j = (s.turn + j - mem.length) + mem.length from by omega, Nat.add_mod_right, Nat.mod_eq_of_lt (by omega)]
        omega
  · obtain ⟨z, hz⟩ : ∃ z, all[i - 1]? = some z := ⟨all[i - 1]'(by omega), List.getElem?_eq_getElem _⟩
    have ht := h.t2 (i - 1) z (by omega) hz
    have hzp := hS.mono (i - 1) i z p (by omega) hz hp
    refine main (mem.idxOf p - s.turn) (by omega) (by rw [show s.turn + (mem.idxOf p - s.turn) = mem.idxOf p from by omega, Nat.mod_eq_of_lt hu]) fun j hj b q hb => ?_
    rw [Nat.mod_eq_of_lt (by omega)]
    rcases Nat.lt_trichotomy b i with hbi | hbi | hbi
    · by_cases hbz : b = i - 1
      · rw [hbz, hz] at hb; cases hb; omega
      · have := hS.mono b (i - 1) q z (by omega) hb hz
        omega
    · rw [hbi, hp] at hb; cases hb; omega
    · have := hS.mono i b p q hbi hp hb
      omega
theorem TInv.done {mem all : List Pid} {R n i : Nat} {s : ISt} (h : TInv mem all R n i s) (hS : Sel mem all) (h1 : 1 ≤ n) {p : Pid} (hp : all[i]? = some p) : s.doneOk p n ∧ TInv mem all R n (i + 1) (s.done p n) := by
  have hpm := hS.sub p (List.mem_of_getElem? hp)
  have hpa := List.mem_of_getElem? hp
  have hpt : p ∉ all.take i := fun hm => by
    obtain ⟨b, hb⟩ := List.mem_iff_getElem?.1 hm
    have hbi : b < i := by have := (List.getElem?_eq_some_iff.1 hb).1; rw [List.length_take] at this; omega
    rw [List.getElem?_take_of_lt hbi] at hb
    have := hS.mono b i p p hbi hb hp
    omega
  have hlp : getN s.last p = n - 1 := by rw [h.lst, if_neg hpt, if_pos hpa]
  have hok : s.doneOk p n := ⟨by rw [h.memE]; exact hpm, by omega⟩
  refine ⟨hok, ?_⟩
  unfold ISt.done
  rw [if_pos hok]
  have htk : all.take (i + 1) = all.take i ++ [p] := by rw [List.take_add_one, hp]; rfl
  refine ⟨h.memE, fun q m => ?_, fun q => ?_, fun h => by omega, fun h => by omega, fun j q hj hq => ?_⟩
  · show mget (q, m) (wsDone p n s.ws) = if q ∈ all ∧ getN (mset p n s.last) q < m ∧ m ≤ R then some [] else none
    rw [mget_wsDone, getN_set, h.get]
    by_cases hqp : q = p
    · subst hqp
      rw [if_pos rfl]
      by_cases hm : m ≤ n
      · rw [if_pos ⟨rfl, hm⟩, if_neg (by omega)]
      · rw [if_neg (fun h => hm h.2)]
        by_cases hc : q ∈ all ∧ n < m ∧ m ≤ R
        · rw [if_pos hc, if_pos ⟨hc.1, by omega, hc.2.2⟩]
        · rw [if_neg hc, if_neg (fun h => hc ⟨h.1, by omega, h.2.2⟩)]
    · rw [if_neg (fun h => hqp h.1), if_neg hqp]
  · show getN (mset p n s.last) q = _
    rw [getN_set, htk, h.lst]
    by_cases hqp : q = p
    · subst hqp
      rw [if_pos rfl, if_pos (by simp)]
    · rw [if_neg hqp]
      by_cases hqt : q ∈ all.take i
      · rw [if_pos hqt, if_pos (List.mem_append.2 (.inl hqt))]
      · have hq2 : q ∉ all.take i ++ [p] := by simp [hqt, hqp]
        rw [if_neg hqt, if_neg hq2]
  · obtain rfl : j = i := by omega
    rw [hp] at hq
    cases hq
    show s.mem.idxOf p + 1 = _
    rw [h.memE]
theorem TInv.round {mem all : List Pid} {R n : Nat} {s : ISt} (h : TInv mem all R n all.length s) (h1 : 1 ≤ n) : TInv mem all R (n + 1) 0 s := by
  refine ⟨h.memE, h.get, fun q => ?_, fun _ h => by omega, fun _ _ q hq => ?_, fun j q h => by omega⟩
  · rw [h.lst, List.take_length, List.take_zero]
    by_cases hq : q ∈ all
    · rw [if_pos hq, if_neg (by simp), if_pos hq]; omega
    · rw [if_neg hq, if_neg hq, if_neg (by simp), if_neg hq]
  · have hl := (List.getElem?_eq_some_iff.1 hq).1
    exact h.t2 (all.length - 1) q (by omega) hq
theorem TInv.none {mem all : List Pid} {R : Nat} {s : ISt} (h : TInv mem all R (R + 1) 0 s) : s.next = ⟨⟨0, 0⟩, 0, [], false⟩ ∧ s.ws.length = 0 := by
  have hg : ∀ k, mget k s.ws = Option.none := fun ⟨q, m⟩ => by
    rw [h.get, if_neg]
    rintro ⟨h2, h3, h4⟩
    rw [h.lst, List.take_zero, if_neg (by simp), if_pos h2] at h3
    omega
  refine ⟨nextR_none fun i hi => hg _, ?_⟩
  cases hw : s.ws with
  | nil => rfl
  | cons x t =>
    have := hg x.1
    rw [hw] at this
    obtain ⟨a, b⟩ := x
    simp [mget] at this
end Go.Proofs.Ytiffpkbkmpianaa.X
