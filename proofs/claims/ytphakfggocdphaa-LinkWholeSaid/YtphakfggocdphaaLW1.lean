/-
  LAYER 12: what LinkWhole needs of the states: all that is let go is a beginning of what was put.
-/
import Derived.Test.YtphakfggocdphaaRef12
import Derived.Test.YtphakfggocdphaaInv11
import Derived.Test.YtphakfggocdphaaNum
namespace Go.Proofs.Ytphakfggocdphaa.X
open Go Go.RowKit
set_option linter.unusedVariables false
/-- an item is one of the texts -/
def OfT (T : List (List UInt8)) (p : Item) : Prop := 1 ≤ p.1 ∧ T[p.1 - 1]? = some p.2
def good (T : List (List UInt8)) (h : Held) : Prop := ∀ p ∈ h, OfT T p
theorem mdel_sub {k : Nat} : ∀ {m : Held} {p : Nat × List UInt8}, p ∈ mdel k m → p ∈ m
  | [], _, h => by cases h
  | (a, x) :: m, p, h => by
    unfold mdel at h
    split at h
    · exact List.mem_cons_of_mem _ h
    · rcases List.mem_cons.1 h with rfl | h
      · exact List.mem_cons_self
      · exact List.mem_cons_of_mem _ (mdel_sub h)
theorem drain_good (T : List (List UInt8)) : ∀ (n u : Nat) (h : Held) (o : List (List UInt8)), good T h → u ≤ T.length →
    u ≤ (drain n u h o).1 ∧ (drain n u h o).1 ≤ T.length ∧ good T (drain n u h o).2.1 ∧ (drain n u h o).2.2 = o ++ (T.drop u).take ((drain n u h o).1 - u)
  | 0, u, h, o, hg, hu => by simp [drain]; exact ⟨hu, hg⟩
  | n + 1, u, h, o, hg, hu => by
    unfold drain
    split
    · simp; exact ⟨hu, hg⟩
    · rename_i b hm
      obtain ⟨h1, h2⟩ := hg _ (mget_mem hm)
      dsimp only at h1 h2
      rw [Nat.add_sub_cancel] at h2
      have hlt : u < T.length := (List.getElem?_eq_some_iff.1 h2).1
      obtain ⟨r1, r2, r3, r4⟩ := drain_good T n (u + 1) (mdel (u + 1) h) (o ++ [b]) (fun p hp => hg p (mdel_sub hp)) hlt
      refine ⟨by omega, r2, r3, ?_⟩
      rw [r4, List.append_assoc]
      congr 1
      have hd : T.drop u = b :: T.drop (u + 1) := by
        rw [List.drop_eq_getElem_cons hlt]
        have := (List.getElem?_eq_some_iff.1 h2).2
        rw [this]
      rw [hd, show (drain n (u + 1) (mdel (u + 1) h) (o ++ [b])).1 - u = ((drain n (u + 1) (mdel (u + 1) h) (o ++ [b])).1 - (u + 1)) + 1 from by omega, List.take_succ_cons]
      rfl
theorem mget_snoc {q : Nat} {b : List UInt8} : ∀ {m : Held}, mget q m = none → mget q (m ++ [(q, b)]) = some b
  | [], _ => by simp [mget]
  | (a, x) :: m, h => by
    simp only [mget] at h
    split at h
    · cases h
    · rename_i hne
      simp only [List.cons_append, mget, if_neg hne]
      exact mget_snoc h
theorem take_good {T : List (List UInt8)} {st : LSt} {q : Nat} {b : List UInt8} (hi : st.inv) (hg : good T st.held) (hq : OfT T (q, b)) (hu : st.upto ≤ T.length) :
    st.upto ≤ (st.take q b).2.upto ∧ (st.take q b).2.upto ≤ T.length ∧ good T (st.take q b).2.held ∧ (st.take q b).1 = (T.drop st.upto).take (st.take q b).1.length ∧ (st.take q b).2.upto = st.upto + (st.take q b).1.length ∧ (st.take q b).2.inv ∧
    (q ≤ st.upto + 1 → q ≤ (st.take q b).2.upto) := by
  obtain ⟨t1, t2, t3⟩ := st.take_inv q b hi
  have key : st.upto ≤ (st.take q b).2.upto ∧ (st.take q b).2.upto ≤ T.length ∧ good T (st.take q b).2.held ∧ (st.take q b).1 = (T.drop st.upto).take ((st.take q b).2.upto - st.upto) ∧ (q ≤ st.upto + 1 → q ≤ (st.take q b).2.upto) := by
    unfold LSt.take
    split
    · rename_i h0
      refine ⟨Nat.le_refl _, hu, hg, by simp, fun hq1 => ?_⟩
      dsimp only
      rcases h0 with h0 | h0 | h0
      · obtain ⟨x, hx⟩ := Option.isSome_iff_exists.1 h0
        have := hi.2 q (List.mem_map.2 ⟨_, mget_mem hx, rfl⟩)
        omega
      · exact h0
      · omega
    · rename_i h0
      simp only [not_or] at h0
      obtain ⟨h1, h2, h3⟩ := h0
      have hm : mget q st.held = none := by
        cases hm : mget q st.held with
        | none => rfl
        | some p => rw [hm] at h1; simp at h1
      have hg2 : good T (st.held ++ [(q, b)]) := fun p hp => by
        rcases List.mem_append.1 hp with hp | hp
        · exact hg p hp
        · simp at hp; subst hp; exact hq
      obtain ⟨r1, r2, r3, r4⟩ := drain_good T (st.held.length + 2) st.upto (st.held ++ [(q, b)]) [] hg2 hu
      refine ⟨r1, r2, r3, by simpa using r4, fun hq1 => ?_⟩
      dsimp only
      obtain rfl : q = st.upto + 1 := by omega
      rw [show st.held.length + 2 = (st.held.length + 1) + 1 from rfl]
      unfold drain
      rw [mget_snoc hm]
      dsimp only
      obtain ⟨hq1', hq2'⟩ := hq
      dsimp only at hq2'
      have hlt : st.upto + 1 ≤ T.length := (List.getElem?_eq_some_iff.1 hq2').1
      exact (drain_good T (st.held.length + 1) (st.upto + 1) (mdel (st.upto + 1) (st.held ++ [(st.upto + 1, b)])) ([] ++ [b]) (fun p hp => hg2 p (mdel_sub hp)) hlt).1
  obtain ⟨k1, k2, k3, k4, k5⟩ := key
  refine ⟨k1, k2, k3, ?_, t2, t1, k5⟩
  have : (st.take q b).2.upto - st.upto = (st.take q b).1.length := by omega
  rw [← this]
  exact k4
/-! ### the sender -/
structure SW (T : List (List UInt8)) (s : SSt) (K : Nat) : Prop where
  inv : s.inv 60 K
  wait : s.wait = T.drop (s.base - 1)
  base : s.base ≤ T.length + 1
theorem SW.tick {T : List (List UInt8)} {s : SSt} {K : Nat} (h : SW T s K) : SW T s.tick K := ⟨h.inv.tick, h.wait, h.base⟩
theorem SW.due {T : List (List UInt8)} {s : SSt} {K : Nat} (h : SW T s K) (hK : K ≤ 1000000) : SW T s.due.2 (K + 16) := ⟨h.inv.due (by decide) hK, h.wait, h.base⟩
theorem SW.mono {T : List (List UInt8)} {s : SSt} {K K' : Nat} (h : SW T s K) (hK : K ≤ K') : SW T s K' := ⟨h.inv.mono (Nat.le_refl _) hK, h.wait, h.base⟩
theorem SW.ack {T : List (List UInt8)} {s : SSt} {K u : Nat} (h : SW T s K) (h1 : s.base ≤ u + 1) (h2 : u ≤ T.length) : SW T (s.ack u).2 K ∧ (s.ack u).2.base = u + 1 := by
  have hb := h.inv.base1
  have hl : s.wait.length = T.length - (s.base - 1) := by rw [h.wait, List.length_drop]
  have hB := h.base
  refine ⟨⟨h.inv.ack u, ?_, ?_⟩, ?_⟩
  · unfold SSt.ack
    split
    · exact h.wait
    · dsimp only
      rw [h.wait, List.drop_drop]
      congr 1
      omega
  · unfold SSt.ack
    split
    · exact h.base
    · dsimp only; omega
  · unfold SSt.ack
    split
    · dsimp only; omega
    · rfl
theorem dueD_item (s : SSt) : ∀ i, ∀ p ∈ (s.dueD i).out, ∃ j, j < i ∧ p = (s.base + j, s.wait.getD j [])
  | 0, p, h => by cases h
  | i + 1, p, h => by
    rw [show s.dueD (i + 1) = s.dueStep i (s.dueD i) from rfl] at h
    have ih := dueD_item s i
    have key : p ∈ (s.dueD i).out ++ [(s.base + i, s.wait.getD i [])] → ∃ j, j < i + 1 ∧ p = (s.base + j, s.wait.getD j []) := fun h => by
      rcases List.mem_append.1 h with h | h
      · obtain ⟨j, h1, h2⟩ := ih p h
        exact ⟨j, by omega, h2⟩
      · simp only [List.mem_singleton] at h
        exact ⟨i, by omega, h⟩
    unfold SSt.dueStep at h
    split at h
    · split at h
      · exact key h
      · exact key h
    · obtain ⟨j, h1, h2⟩ := ih p h
      exact ⟨j, by omega, h2⟩
theorem SW.item {T : List (List UInt8)} {s : SSt} {K : Nat} (h : SW T s K) {j : Nat} (hj : j < s.wait.length) : OfT T (s.base + j, s.wait.getD j []) := by
  have hb := h.inv.base1
  refine ⟨by dsimp only; omega, ?_⟩
  have e : s.wait[j]? = some (s.wait.getD j []) := by simp [List.getD_eq_getElem?_getD, List.getElem?_eq_getElem hj]
  dsimp only
  rw [← e, h.wait, List.getElem?_drop]
  congr 1
  omega
theorem SW.dues {T : List (List UInt8)} {s : SSt} {K : Nat} (h : SW T s K) : ∀ p ∈ s.due.1, OfT T p := fun p hp => by
  obtain ⟨j, hj, rfl⟩ := dueD_item s _ p hp
  have := Nat.min_le_right 16 s.wait.length
  exact h.item (by omega)
theorem dueD_all {s : SSt} (h : s.told = 0) : ∀ i, (s.dueD i).told = 2 ^ i - 1 ∧ (s.dueD i).out = (List.range i).map fun j => (s.base + j, s.wait.getD j [])
  | 0 => ⟨h, rfl⟩
  | i + 1 => by
    obtain ⟨h1, h2⟩ := dueD_all h i
    rw [show s.dueD (i + 1) = s.dueStep i (s.dueD i) from rfl]
    unfold SSt.dueStep
    rw [if_pos (by rw [h1, ones_shr])]
    split
    · exact ⟨by dsimp only; rw [h1, or_ones], by dsimp only; rw [h2, List.range_succ, List.map_append]; rfl⟩
    · exact ⟨by dsimp only; rw [h1, or_ones], by dsimp only; rw [h2, List.range_succ, List.map_append]; rfl⟩
theorem due_all {s : SSt} (h : s.told = 0) : s.due.1.length = min 16 s.wait.length ∧ ∀ j p, s.due.1[j]? = some p → p = (s.base + j, s.wait.getD j []) := by
  have h2 : s.due.1 = (List.range (min 16 s.wait.length)).map fun j => (s.base + j, s.wait.getD j []) := (dueD_all h (min 16 s.wait.length)).2
  refine ⟨by rw [h2]; simp, fun j p hp => ?_⟩
  rw [h2, List.getElem?_map] at hp
  obtain ⟨a, ha, rfl⟩ := Option.map_eq_some_iff.1 hp
  obtain ⟨hlt, rfl⟩ := List.getElem?_eq_some_iff.1 ha
  simp
/-! ### pools of bytes -/
theorem EachB.app : ∀ {vs vs' : List Value} {ls ls' : List (List UInt8)} {L : List HP} {h : PH}, SatH (EachB vs ls :: EachB vs' ls' :: L) h → SatH (EachB (vs ++ vs') (ls ++ ls') :: L) h
  | [], vs', [], ls', L, h, hs => hs.tail
  | v :: vs, vs', l :: ls, ls', L, h, hs => by
    have h1 : SatH (BR v l :: EachB vs ls :: EachB vs' ls' :: L) h := SatH.flat (Ls := [BR v l, EachB vs ls]) hs
    have h2 : SatH (BR v l :: EachB (vs ++ vs') (ls ++ ls') :: L) h := SatH.cons_mono (fun h hh => EachB.app hh) h1
    exact SatH.unflat (Ls := [BR v l, EachB (vs ++ vs') (ls ++ ls')]) h2
  | [], _, _ :: _, _, _, _, ⟨_, _, _, h, _⟩ => h.elim
  | _ :: _, _, [], _, _, _, ⟨_, _, _, h, _⟩ => h.elim
theorem Sat.eachApp {w0 w : World} {vs vs' : List Value} {ls ls' : List (List UInt8)} {L : List HP} (hs : Sat w0 w (EachB vs ls :: EachB vs' ls' :: L)) : Sat w0 w (EachB (vs ++ vs') (ls ++ ls') :: L) := hs.map fun _ => EachB.app
/-- what is on the way -/
structure WayI (T : List (List UInt8)) (l : List Item) (us pool : List Value) (pbs : List (List UInt8)) : Prop where
  len : us.length = l.length
  plen : pool.length = pbs.length
  ofT : ∀ p ∈ l, OfT T p
  read : ∀ (j : Nat) (u : Value) (p : Item), us[j]? = some u → l[j]? = some p → ∃ q : Nat, pool[q]? = some u ∧ pbs[q]? = some p.2
theorem WayI.nil (T : List (List UInt8)) : WayI T [] [] [] [] := ⟨rfl, rfl, (fun p h => nomatch h), (fun j u p h _ => by simp at h)⟩
theorem WayI.app {T : List (List UInt8)} {l l' : List Item} {us us' pool : List Value} {pbs : List (List UInt8)} (h : WayI T l us pool pbs) (hl : us'.length = l'.length) (ho : ∀ p ∈ l', OfT T p) : WayI T (l ++ l') (us ++ us') (pool ++ us') (pbs ++ l'.map (·.2)) := by
  refine ⟨by simp [h.len, hl], by simp [h.plen, hl], fun p hp => ?_, fun j u p h1 h2 => ?_⟩
  · rcases List.mem_append.1 hp with hp | hp
    · exact h.ofT p hp
    · exact ho p hp
  · by_cases hj : j < us.length
    · rw [List.getElem?_append_left hj] at h1
      rw [List.getElem?_append_left (by rw [← h.len]; exact hj)] at h2
      obtain ⟨q, h3, h4⟩ := h.read j u p h1 h2
      exact ⟨q, by rw [List.getElem?_append_left (List.getElem?_eq_some_iff.1 h3).1]; exact h3, by rw [List.getElem?_append_left (List.getElem?_eq_some_iff.1 h4).1]; exact h4⟩
    · have hlen := h.len
      have hpl := h.plen
      rw [List.getElem?_append_right (by omega)] at h1 h2
      refine ⟨pool.length + (j - us.length), ?_, ?_⟩
      · rw [List.getElem?_append_right (by omega), show pool.length + (j - us.length) - pool.length = j - us.length from by omega]; exact h1
      · rw [List.getElem?_append_right (by omega), List.getElem?_map, show pool.length + (j - us.length) - pbs.length = j - l.length from by omega, h2]; rfl
theorem cut_get {α : Type} {l : List α} {k j : Nat} {a : α} (h : (l.take k ++ l.drop (k + 1))[j]? = some a) (hk : k < l.length) : l[if j < k then j else j + 1]? = some a := by
  by_cases hj : j < k
  · rw [List.getElem?_append_left (by simp; omega), List.getElem?_take_of_lt hj] at h
    rw [if_pos hj]; exact h
  · rw [List.getElem?_append_right (by simp; omega), List.getElem?_drop] at h
    rw [if_neg hj]
    rw [List.length_take, Nat.min_eq_left (by omega)] at h
    rw [← h]
    congr 1
    omega
theorem WayI.cut {T : List (List UInt8)} {l : List Item} {us pool : List Value} {pbs : List (List UInt8)} (h : WayI T l us pool pbs) {k : Nat} (hk : k < l.length) : WayI T (l.take k ++ l.drop (k + 1)) (us.take k ++ us.drop (k + 1)) pool pbs := by
  have hlen := h.len
  refine ⟨by simp; omega, h.plen, fun p hp => ?_, fun j u p h1 h2 => ?_⟩
  · rcases List.mem_append.1 hp with hp | hp
    · exact h.ofT p (List.mem_of_mem_take hp)
    · exact h.ofT p (List.mem_of_mem_drop hp)
  · exact h.read _ u p (cut_get h1 (by omega)) (cut_get h2 hk)
/-- a part of a slice of texts -/
theorem RBB.slice {w : World} {ao : Option Addr} {c i j : Nat} {ls : List (List UInt8)} (h : RBB w (.slice ao ls.length c) ls) (hij : i ≤ j) (hj : j ≤ ls.length) : RBB w (slVal ao ls.length c i j 1) ((ls.drop i).take (j - i)) := by
  obtain ⟨vs, h1, h2⟩ := h
  have hvl : vs.length = ls.length := by have := h1.1; omega
  have h3 := rd_slice h1 hij hj
  rw [Nat.mul_one, Nat.mul_one] at h3
  have hl : ((ls.drop i).take (j - i)).length = j - i := by simp; omega
  refine ⟨(vs.drop i).take (j - i), by rw [hl]; exact h3, fun q u b h4 h5 => ?_⟩
  have hq : q < j - i := by
    have := (List.getElem?_eq_some_iff.1 h5).1
    omega
  rw [List.getElem?_take_of_lt hq, List.getElem?_drop] at h4 h5
  exact h2 _ u b h4 h5
end Go.Proofs.Ytphakfggocdphaa.X
