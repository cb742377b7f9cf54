/-
  STORES OF SEVERAL CELLS: into a block that is owned, into a row that is owned. Lists told in step.
-/
import Derived.Test.YtiffpkbkmpianaaMisc
namespace Go.Proofs.Ytiffpkbkmpianaa.X
open Go Go.RowKit
set_option linter.unusedVariables false
section
variable {P : Program} {n : Nat} {ops : Array Oper} {S : World → Prop} {K : Env → World → Prop} {rest : List (Oper × Nat × Bool)} {ρ : Env} {w w0 : World} {L : List HP}
variable {d : Nat} {ty : TypeId} {pos : String} {af : Array Edge} {held : Nat} {need : Bool} {x y : Operand}
theorem run_storeN {t T b o k : Nat} {cur : Array Value} {news : List Value} (h1 : Agg P t k) (hk : news.length = k) (hone : ∀ u ∈ news, u.oneCell' = true) (hfit : o + k ≤ cur.size) (hb : w.heap[b]? = some (.cells cur T (0, 0))) :
    (Instr.storeAt t (.pointer (some ⟨b, o, none⟩)) (.agg news.toArray)).run P w = .ok () (w.setRow b (cur.toList.take o ++ news ++ cur.toList.drop (o + k)).toArray) := by
  have hst := run_storeCells_at P b o T news 0 cur w hb (by simpa [hk] using hfit) hone
  simp only [Nat.add_zero, hk] at hst
  have hcells : (Value.agg news.toArray).cells = news.toArray := rfl
  simp [Instr.storeAt, Instr.sureAddr, storeVar, h1.2, hcells, hk, hst]
/-- a store of an aggregate into a block that is owned -/
theorem x_storeN {t T b o k : Nat} {cur : Array Value} (hs : Sat w0 w (Blk b (.cells cur T (0, 0)) :: L)) (h1 : Agg P t k) (news : List Value) (hx : ev ρ x = .pointer (some ⟨b, o, none⟩)) (hy : ev ρ y = .agg news.toArray) (hk : news.length = k) (hone : news.all (fun u => u.oneCell') = true) (hfit : o + k ≤ cur.size)
    (h : ∀ w', Sat w0 w' (Blk b (.cells (cur.toList.take o ++ news ++ cur.toList.drop (o + k)).toArray T (0, 0)) :: L) → (need = true → S w') ∧ RX P n ops S K rest ρ w') :
    RX P n ops S K ((⟨none, .store t x y, ty, pos, af, none⟩, 0, need) :: rest) ρ w := by
  have hr := run_storeN (o := o) h1 hk (fun u hu => List.all_eq_true.1 hone u hu) hfit hs.blk
  obtain ⟨h2, h3⟩ := h _ (hs.write (w' := w.setRow b (cur.toList.take o ++ news ++ cur.toList.drop (o + k)).toArray) rfl rfl rfl (setRow_size w b _) (fun k hk => setRow_other w b k _ hk) (setRow_heap w b cur _ T _ hs.blk))
  exact x_act rfl (by simp [execOp, hx, hy, hr]) h2 h3
/-- the whole block -/
theorem x_storeAll {t T b k : Nat} {cur : Array Value} (hs : Sat w0 w (Blk b (.cells cur T (0, 0)) :: L)) (h1 : Agg P t k) (news : List Value) (hx : ev ρ x = .pointer (some ⟨b, 0, none⟩)) (hy : ev ρ y = .agg news.toArray) (hk : news.length = k) (hone : news.all (fun u => u.oneCell') = true) (hfit : cur.size = k)
    (h : ∀ w', Sat w0 w' (Blk b (.cells news.toArray T (0, 0)) :: L) → (need = true → S w') ∧ RX P n ops S K rest ρ w') :
    RX P n ops S K ((⟨none, .store t x y, ty, pos, af, none⟩, 0, need) :: rest) ρ w :=
  x_storeN hs h1 news hx hy hk hone (by omega) fun w' hs' => by
    refine h w' ?_
    have e : (cur.toList.take 0 ++ news ++ cur.toList.drop (0 + k)).toArray = news.toArray := by
      rw [List.take_zero, List.nil_append, List.drop_of_length_le (by simp [hfit]), List.append_nil]
    rwa [e] at hs'
/-- element i of a row -/
def setRows (xs : List Value) (o : Nat) (news : List Value) : List Value := xs.take o ++ news ++ xs.drop (o + news.length)
theorem setRows_eq (C news : List Value) {off o m size : Nat} (h1 : o + news.length ≤ m * size) (h2 : off + m * size ≤ C.length) (hk : news.length = size) :
    ((C.take (off + o) ++ news ++ C.drop (off + o + size)).drop off).take (m * size) = ((C.drop off).take (m * size)).take o ++ news ++ ((C.drop off).take (m * size)).drop (o + news.length) := by
  apply List.ext_getElem?
  intro j
  by_cases hj : j < m * size
  · rw [List.getElem?_take_of_lt hj, List.getElem?_drop, List.append_assoc, List.append_assoc]
    by_cases c1 : j < o
    · rw [List.getElem?_append_left (by simp; omega), List.getElem?_append_left (by simp; omega), List.getElem?_take_of_lt (by omega), List.getElem?_take_of_lt c1, List.getElem?_take_of_lt hj, List.getElem?_drop]
    · have e1 : (C.take (off + o)).length = off + o := by simp; omega
      have e2 : (((C.drop off).take (m * size)).take o).length = o := by simp; omega
      rw [List.getElem?_append_right (by omega : (C.take (off + o)).length ≤ off + j), e1, show off + j - (off + o) = j - o from by omega, List.getElem?_append_right (by omega : (((C.drop off).take (m * size)).take o).length ≤ j), e2]
      by_cases c2 : j - o < news.length
      · rw [List.getElem?_append_left c2, List.getElem?_append_left c2]
      · have c3 : news.length ≤ j - o := by omega
        rw [List.getElem?_append_right c3, List.getElem?_append_right c3, List.getElem?_drop, List.getElem?_drop, List.getElem?_take_of_lt (by omega), List.getElem?_drop]
        congr 1
        omega
  · rw [List.getElem?_eq_none (by simp; omega), List.getElem?_eq_none (by simp; omega)]
theorem x_storeNRow {t e size m b off c o : Nat} {xs : List Value} (hs : Sat w0 w (Row e size (.slice (some ⟨b, off, none⟩) m c) m xs :: L)) (h1 : Agg P t size) (news : List Value) (hx : ev ρ x = .pointer (some ⟨b, off + o, none⟩)) (hy : ev ρ y = .agg news.toArray) (hk : news.length = size) (hone : news.all (fun u => u.oneCell') = true) (hfit : o + size ≤ m * size)
    (h : ∀ w', Sat w0 w' (Row e size (.slice (some ⟨b, off, none⟩) m c) m (setRows xs o news) :: L) → (need = true → S w') ∧ RX P n ops S K rest ρ w') :
    RX P n ops S K ((⟨none, .store t x y, ty, pos, af, none⟩, 0, need) :: rest) ρ w := by
  rcases hs.row with ⟨h0, _⟩ | ⟨b', off', cap, cur, e1, g1, g2, g3, g4, hb⟩
  · cases h0
  · cases e1
    have hm : m * size ≤ c * size := Nat.mul_le_mul_right _ g1
    refine x_storeN hb h1 news hx hy hk hone (by omega) fun w' hs' => h w' ?_
    refine hs'.rowOf g1 g2 ?_ ?_
    · simp only [List.size_toArray, List.length_append, List.length_take, List.length_drop, Array.length_toList]
      omega
    · subst g4
      unfold setRows
      exact setRows_eq cur.toList news (by rw [hk]; omega) (by simp only [Array.length_toList]; omega) (by omega)
end
/-! ### a resource by its number -/
theorem front_perm : ∀ (i : Nat) (L : List HP), (front i L).Perm L
  | 0, L => List.Perm.refl _
  | _ + 1, [] => List.Perm.refl _
  | i + 1, A :: L => by
    have ih := front_perm i L
    simp only [front]
    cases hf : front i L with
    | nil =>
      rw [hf] at ih
      rw [List.nil_perm.1 ih]
    | cons B L' =>
      rw [hf] at ih
      exact (List.Perm.swap A B L').trans (ih.cons A)
theorem cons_erase : ∀ (i : Nat) (L : List HP) (A : HP), L[i]? = some A → (A :: L.eraseIdx i).Perm L
  | _, [], _, h => by simp at h
  | 0, B :: L, A, h => by simp at h; subst h; exact List.Perm.refl _
  | i + 1, B :: L, A, h => by
    have ih := cons_erase i L A (by simpa using h)
    exact (List.Perm.swap B A _).trans (ih.cons B)
theorem cons_set : ∀ (i : Nat) (L : List HP) (A : HP), i < L.length → (A :: L.eraseIdx i).Perm (L.set i A)
  | _, [], _, h => by simp at h
  | 0, B :: L, A, h => List.Perm.refl _
  | i + 1, B :: L, A, h => by
    have ih := cons_set i L A (by simpa using h)
    exact (List.Perm.swap B A _).trans (ih.cons B)
/-- number i ahead of the others; back again, turned -/
theorem Sat.at {w0 w : World} {L : List HP} {A : HP} (hs : Sat w0 w L) (i : Nat) (h : L[i]? = some A) : Sat w0 w (A :: L.eraseIdx i) := hs.map fun _ hh => hh.of_perm (cons_erase i L A h).symm
theorem Sat.putAt {w0 w : World} {L : List HP} {A : HP} {i : Nat} (hs : Sat w0 w (A :: L.eraseIdx i)) (h : i < L.length) : Sat w0 w (L.set i A) := hs.map fun _ hh => hh.of_perm (cons_set i L A h)
section
variable {P : Program} {n : Nat} {ops : Array Oper} {S : World → Prop} {K : Env → World → Prop} {rest : List (Oper × Nat × Bool)} {ρ : Env} {w w0 : World} {L : List HP}
variable {d : Nat} {ty : TypeId} {pos : String} {af : Array Edge} {held : Nat} {need : Bool} {x y : Operand}
theorem x_storeI {t : TypeId} {b j : Nat} {cs : Array Value} {T : TypeId} (hs : Sat w0 w L) (i : Nat) (hx : ev ρ x = .pointer (some ⟨b, j, none⟩)) (hb : L[i]? = some (Blk b (.cells cs T (0, 0)))) (h1 : One P t) (v : Value) (hy : ev ρ y = v) (hv : v.oneCell' = true) (hi' : Nat.blt j cs.size = true)
    (h : ∀ w', Sat w0 w' (L.set i (Blk b (.cells (cs.setIfInBounds j v) T (0, 0)))) → (need = true → S w') ∧ RX P n ops S K rest ρ w') :
    RX P n ops S K ((⟨none, .store t x y, ty, pos, af, none⟩, 0, need) :: rest) ρ w :=
  x_store (hs.at i hb) h1 v hx hy hv hi' fun w' hs' => h w' (hs'.putAt (List.getElem?_eq_some_iff.1 hb).1)
/-- a guard that was itself left out -/
theorem x_skipU {op : Op} {dst : Option Tmp} {j : Nat} {b : Bool} (hb : yE ops ρ n j = none) (h : RX P n ops S K rest (updO n ρ dst undef) w) (h3 : Nat.blt held 3 = true := by rfl) : RX P n ops S K ((⟨dst, op, ty, pos, af, some (j, b)⟩, held, need) :: rest) ρ w := by
  have h3' : held < 3 := Nat.le_of_ble_eq_true h3
  rw [RX_cons, if_neg (by omega), if_neg (by simp [Region.wanted, hb])]
  exact h
/-- what joins: behind x stands a state that is told anew -/
theorem c_seqI {P : Program} {n : Nat} {Q : Exit → Env → World → Prop} {ρ : Env} {w : World} {c1 c2 : Code} {γ : Type} (E : γ → List (Nat × Value)) (I : γ → World → Prop) (h1 : CW P n c1 (Then (fun ρ w => ∃ g, Has ρ (E g) ∧ I g w) Q) ρ w) (h2 : ∀ g ρ w, I g w → CW P n c2 Q (sets n (E g) ρ) w) : CW P n (.seq c1 c2) Q ρ w := by
  refine c_seq (h1.mono fun e ρ w h => ?_)
  cases e with
  | normal =>
    obtain ⟨g, hh, hi⟩ := h
    have := h2 g ρ w hi
    rw [sets_of_has hh] at this
    exact this
  | _ => exact h
end
/-- lists in step, one more at the end -/
theorem par_snoc {α β : Type} {R : α → β → Prop} {l1 : List α} {l2 : List β} {a : α} {b : β} (hl : l1.length = l2.length) (h : ∀ (j : Nat) (u : α) (p : β), l1[j]? = some u → l2[j]? = some p → R u p) (hab : R a b) :
    ∀ (j : Nat) (u : α) (p : β), (l1 ++ [a])[j]? = some u → (l2 ++ [b])[j]? = some p → R u p := by
  intro j u p h1 h2
  by_cases hj : j < l1.length
  · rw [List.getElem?_append_left hj] at h1
    rw [List.getElem?_append_left (by omega)] at h2
    exact h j u p h1 h2
  · rw [List.getElem?_append_right (by omega)] at h1 h2
    have e : j - l1.length = 0 := by
      rcases Nat.eq_zero_or_pos (j - l1.length) with h | h
      · exact h
      · rw [List.getElem?_eq_none (by simp; omega)] at h1; cases h1
    rw [← hl, e] at h2
    rw [e] at h1
    cases h1; cases h2
    exact hab
end Go.Proofs.Ytiffpkbkmpianaa.X
