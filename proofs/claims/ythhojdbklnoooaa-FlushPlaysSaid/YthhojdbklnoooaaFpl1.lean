/-
  LAYER 24: what the flush and the document's answer keep alike; plain.
-/
import Derived.Test.YthhojdbklnoooaaFall
import Derived.Test.YthhojdbklnoooaaFref2
import Derived.Test.YthhojdbklnoooaaPcl
namespace Go.Proofs.Ythhojdbklnoooaa.X
open Go Go.RowKit
set_option linter.unusedVariables false
set_option maxRecDepth 20000
/-- of one that is left out, in the document's answer -/
def tw (t : List (Pid × Nat)) (p : Pid) : List (Pid × Nat) := t.filter fun y => decide (y.1 ≠ p)
def FSt.rsk (s : FSt) (p : Pid) : FSt := { s with ask := wo s.ask p, told := tw s.told p }
def FSt.rhit (s : FSt) (p : Pid) : Bool := (mget p s.told).isSome || decide (p ∈ s.ask)
def FSt.rskip (s : FSt) (l : List Pid) : Nat × FSt := l.foldl (fun x p => (x.1 + (if x.2.rhit p then 1 else 0), x.2.rsk p)) (0, s)
theorem FSt.rskip_snoc (s : FSt) (l : List Pid) (p : Pid) : s.rskip (l ++ [p]) = ((s.rskip l).1 + (if (s.rskip l).2.rhit p then 1 else 0), (s.rskip l).2.rsk p) := by
  unfold FSt.rskip
  rw [List.foldl_append]
  rfl
structure FInv (s : FSt) : Prop where
  askN : s.ask.Nodup
  toldN : (s.told.map (·.1)).Nodup
  apart : ∀ p ∈ s.ask, mget p s.told = none
  len : s.ask.length + s.told.length ≤ 40
theorem erase_wo {p : Pid} : ∀ {l : List Pid}, l.Nodup → l.eraseIdx (l.idxOf p) = wo l p
  | [], _ => rfl
  | a :: l, h => by
    simp only [List.nodup_cons] at h
    by_cases ha : a = p
    · subst ha
      rw [List.idxOf_cons_self]
      unfold wo
      have : l.filter (fun y => decide (y ≠ a)) = l := List.filter_eq_self.2 fun y hy => by
        have : y ≠ a := fun e => h.1 (e ▸ hy)
        simpa using this
      rw [List.filter_cons_of_neg (by simp), this]
      rfl
    · rw [show (a :: l).idxOf p = l.idxOf p + 1 from by rw [List.idxOf_cons, show (a == p) = false from by simpa using ha]; rfl]
      have := erase_wo (p := p) h.2
      unfold wo at this ⊢
      rw [List.filter_cons_of_pos (by simpa using ha), ← this]
      rfl
theorem mdel_tw {p : Pid} : ∀ {t : List (Pid × Nat)}, (t.map (·.1)).Nodup → mdel p t = tw t p
  | [], _ => rfl
  | (a, x) :: t, h => by
    simp only [List.map_cons, List.nodup_cons] at h
    have ih := mdel_tw (p := p) h.2
    unfold tw at ih ⊢
    by_cases ha : p = a
    · subst ha
      have : t.filter (fun y => decide (y.1 ≠ p)) = t := List.filter_eq_self.2 fun y hy => by
        have : y.1 ≠ p := fun e => h.1 (e ▸ List.mem_map_of_mem (f := (·.1)) hy)
        simpa using this
      rw [List.filter_cons_of_neg (by simp), this]
      simp only [mdel, if_pos]
    · simp only [mdel, if_neg ha]
      rw [List.filter_cons_of_pos (by simpa using fun e => ha e.symm), ih]
theorem mget_tw (p q : Pid) : ∀ t : List (Pid × Nat), mget p (tw t q) = if p = q then none else mget p t
  | [] => by simp [tw, mget]
  | (a, x) :: t => by
    have ih := mget_tw p q t
    unfold tw at ih ⊢
    by_cases ha : a = q
    · subst ha
      rw [List.filter_cons_of_neg (by simp), ih]
      by_cases hp : p = a
      · rw [if_pos hp, if_pos hp]
      · rw [if_neg hp, if_neg hp]; simp only [mget, if_neg hp]
    · rw [List.filter_cons_of_pos (by simpa using ha)]
      simp only [mget, ih]
      by_cases hp : p = a
      · subst hp
        rw [if_pos rfl, if_neg ha, if_pos rfl]
      · rw [if_neg hp, if_neg hp]
theorem FInv.sk {s : FSt} (h : FInv s) (p : Pid) : s.sk p = s.rsk p := by
  unfold FSt.sk FSt.rsk FSt.un
  dsimp only
  rw [erase_wo h.askN, mdel_tw h.toldN]
theorem FInv.hit (s : FSt) (p : Pid) : s.rhit p = s.hit p := by
  unfold FSt.rhit FSt.hit
  exact Bool.or_comm _ _
theorem FInv.rsk {s : FSt} (h : FInv s) (p : Pid) : FInv (s.rsk p) := by
  refine ⟨h.askN.sublist List.filter_sublist, h.toldN.sublist (List.Sublist.map _ List.filter_sublist), fun q hq => ?_, ?_⟩
  · show mget q (tw s.told p) = none
    rw [mget_tw]
    split
    · rfl
    · exact h.apart q (List.mem_filter.1 hq).1
  · have h1 : (wo s.ask p).length ≤ s.ask.length := List.length_filter_le ..
    have h2 : (tw s.told p).length ≤ s.told.length := List.length_filter_le ..
    have := h.len
    show (wo s.ask p).length + (tw s.told p).length ≤ 40
    omega
theorem FInv.skip {s : FSt} (h : FInv s) (l : List Pid) : s.skip l = s.rskip l ∧ FInv (s.rskip l).2 := by
  have key : ∀ (l : List Pid) (n : Nat) (s : FSt), FInv s →
      l.foldl (fun (x : Nat × FSt) p => (x.1 + (if x.2.hit p then 1 else 0), x.2.sk p)) (n, s) = l.foldl (fun (x : Nat × FSt) p => (x.1 + (if x.2.rhit p then 1 else 0), x.2.rsk p)) (n, s) ∧
      FInv (l.foldl (fun (x : Nat × FSt) p => (x.1 + (if x.2.rhit p then 1 else 0), x.2.rsk p)) (n, s)).2 := by
    intro l
    induction l with
    | nil => intro n s h; exact ⟨rfl, h⟩
    | cons p l ih =>
      intro n s h
      simp only [List.foldl_cons]
      rw [h.sk, FInv.hit]
      exact ih _ _ (h.rsk p)
  exact key l 0 s h
def FSt.tl (s : FSt) (p : Pid) (n : Nat) : FSt := { s with ask := wo s.ask p, told := s.told ++ [(p, n)] }
theorem FInv.told {s : FSt} (h : FInv s) {p : Pid} (hp : p ∈ s.ask) (n : Nat) : ({ s.un p with told := mset p n s.told } : FSt) = s.tl p n := by
  unfold FSt.un FSt.tl
  dsimp only
  rw [erase_wo h.askN, mset_new (h.apart p hp)]
theorem wo_lt {l : List Pid} {p : Pid} (h : p ∈ l) : (wo l p).length < l.length := by
  unfold wo
  rcases Nat.lt_or_ge (l.filter fun y => decide (y ≠ p)).length l.length with h1 | h1
  · exact h1
  · have h2 := List.length_filter_eq_length_iff.1 (Nat.le_antisymm (List.length_filter_le ..) h1) p h
    simp at h2
theorem FInv.tl {s : FSt} (h : FInv s) {p : Pid} (hp : p ∈ s.ask) (n : Nat) : FInv (s.tl p n) := by
  have h0 := h.apart p hp
  refine ⟨h.askN.sublist List.filter_sublist, ?_, fun q hq => ?_, ?_⟩
  · show ((s.told ++ [(p, n)]).map (·.1)).Nodup
    rw [← mset_new h0]
    exact (mset_keys h.toldN).1
  · show mget q (s.told ++ [(p, n)]) = none
    have hq' : q ∈ s.ask ∧ q ≠ p := by
      have : q ∈ wo s.ask p := hq
      unfold wo at this
      rw [List.mem_filter] at this
      exact ⟨this.1, by simpa using this.2⟩
    rw [← mset_new h0, mget_set, if_neg hq'.2]
    exact h.apart q hq'.1
  · show (wo s.ask p).length + (s.told ++ [(p, n)]).length ≤ 40
    have := wo_lt hp
    have := h.len
    simp only [List.length_append, List.length_singleton]
    omega
theorem FInv.start (v : Nat) {l : List Pid} (h : l.length ≤ 40) : FInv ⟨v, once l, []⟩ := by
  refine ⟨once_nodup l, List.nodup_nil, fun p _ => rfl, ?_⟩
  have := once_len l
  show (once l).length + 0 ≤ 40
  omega
/-! ### the numbers as a map -/
def tbl (l : List (Pid × Nat)) : List (Pid × Nat) := l.foldl (fun m x => mset x.1 x.2 m) []
def lastN (l : List (Pid × Nat)) (p : Pid) : Nat := l.foldl (fun n x => if x.1 = p then x.2 else n) 0
theorem tbl_snoc (l : List (Pid × Nat)) (x : Pid × Nat) : tbl (l ++ [x]) = mset x.1 x.2 (tbl l) := by unfold tbl; rw [List.foldl_append]; rfl
theorem lastN_snoc (l : List (Pid × Nat)) (x : Pid × Nat) (p : Pid) : lastN (l ++ [x]) p = if x.1 = p then x.2 else lastN l p := by unfold lastN; rw [List.foldl_append]; rfl
theorem tbl_last (l : List (Pid × Nat)) (p : Pid) : (mget p (tbl l)).getD 0 = lastN l p := by
  have key : ∀ (l m : List (Pid × Nat)) (n : Nat), (mget p m).getD 0 = n → (mget p (l.foldl (fun m x => mset x.1 x.2 m) m)).getD 0 = l.foldl (fun n x => if x.1 = p then x.2 else n) n := by
    intro l
    induction l with
    | nil => intro m n h; exact h
    | cons x l ih =>
      intro m n h
      simp only [List.foldl_cons]
      refine ih _ _ ?_
      rw [mget_set]
      by_cases hx : x.1 = p
      · rw [if_pos hx.symm, if_pos hx]; rfl
      · rw [if_neg (fun e => hx e.symm), if_neg hx]; exact h
  exact key l [] 0 rfl
def rdyR (told last : List (Pid × Nat)) : Prop := ∀ p ∈ told, p.2 ≤ lastN last p.1
instance (told last : List (Pid × Nat)) : Decidable (rdyR told last) := by unfold rdyR; infer_instance
theorem rdy_tbl (told last : List (Pid × Nat)) : rdy told (tbl last) ↔ rdyR told last := by
  unfold rdy rdyR
  simp only [tbl_last]
end Go.Proofs.Ythhojdbklnoooaa.X
