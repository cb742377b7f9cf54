/-
  THE MEMORY: blocks as resources, owned apart from each other (a separation logic over the heap's blocks), affine. It speaks of no program.
-/
import Derived.Test.YtiffpkbkmpianaaDraw
import Derived.Below
namespace Go.Proofs.Ytiffpkbkmpianaa.X
open Go Go.RowKit
set_option linter.unusedVariables false

abbrev PH := Nat → Option Obj
def on (h : PH) (p : Nat → Bool) : PH := fun k => bif p k then h k else none
abbrev HP := PH → Prop
/-- the resources of a list, apart from each other -/
def SatH : List HP → PH → Prop
  | [], _ => True
  | A :: L, h => ∃ p q : Nat → Bool, (∀ k, (p k && q k) = false) ∧ A (on h p) ∧ SatH L (on h q)
theorem on_on (h : PH) (p q : Nat → Bool) : on (on h p) q = on h fun k => p k && q k := by
  funext k; simp only [on]; cases p k <;> cases q k <;> rfl
theorem on_congr {h h' : PH} {p : Nat → Bool} (e : ∀ k, p k = true → h k = h' k) : on h p = on h' p := by
  funext k; simp only [on]; cases hp : p k with
  | false => rfl
  | true => simpa using e k hp
theorem on_all (h : PH) : on h (fun _ => true) = h := rfl
theorem SatH.of_on : ∀ {L : List HP} {h : PH} {q : Nat → Bool}, SatH L (on h q) → SatH L h
  | [], _, _, _ => trivial
  | A :: L, h, q, ⟨p1, q1, hd, hA, hL⟩ => by
    rw [on_on] at hA hL
    refine ⟨fun k => q k && p1 k, fun k => q k && q1 k, fun k => ?_, hA, hL⟩
    have := hd k
    cases q k <;> simp_all
theorem SatH.swap {A B : HP} {L : List HP} {h : PH} : SatH (A :: B :: L) h → SatH (B :: A :: L) h := by
  rintro ⟨p, q, hd, hA, p1, q1, hd1, hB, hL⟩
  rw [on_on] at hB hL
  refine ⟨fun k => q k && p1 k, fun k => p k || (q k && q1 k), fun k => ?_, hB, p, fun k => q k && q1 k, fun k => ?_, ?_, ?_⟩
  · have h1 := hd k; have h2 := hd1 k
    dsimp only at h1 h2 ⊢; revert h1 h2; cases p k <;> cases q k <;> cases p1 k <;> cases q1 k <;> simp
  · have h1 := hd k
    dsimp only at h1 ⊢; revert h1; cases p k <;> cases q k <;> simp
  · rw [on_on]; rw [show (fun k => (p k || (q k && q1 k)) && p k) = p from by funext k; cases p k <;> cases q k <;> cases q1 k <;> rfl]; exact hA
  · rw [on_on]; rw [show (fun k => (p k || (q k && q1 k)) && (q k && q1 k)) = (fun k => q k && q1 k) from by funext k; cases p k <;> cases q k <;> cases q1 k <;> rfl]; exact hL
theorem SatH.tail {A : HP} {L : List HP} {h : PH} : SatH (A :: L) h → SatH L h := fun ⟨_, _, _, _, hL⟩ => hL.of_on
theorem SatH.cons_mono {A : HP} {L L' : List HP} {h : PH} (hm : ∀ h, SatH L h → SatH L' h) : SatH (A :: L) h → SatH (A :: L') h :=
  fun ⟨p, q, hd, hA, hL⟩ => ⟨p, q, hd, hA, hm _ hL⟩
theorem SatH.head_mono {A B : HP} {L : List HP} {h : PH} (hm : ∀ h, A h → B h) : SatH (A :: L) h → SatH (B :: L) h :=
  fun ⟨p, q, hd, hA, hL⟩ => ⟨p, q, hd, hm _ hA, hL⟩
/-- number i to the front -/
def front : Nat → List HP → List HP
  | 0, L => L
  | _ + 1, [] => []
  | i + 1, A :: L => match front i L with
    | [] => [A]
    | B :: L' => B :: A :: L'
theorem SatH.pull : ∀ (i : Nat) {L : List HP} {h : PH}, SatH L h → SatH (front i L) h
  | 0, _, _, hs => hs
  | _ + 1, [], _, hs => hs
  | i + 1, A :: L, h, hs => by
    have := SatH.cons_mono (A := A) (fun h => SatH.pull i (L := L) (h := h)) hs
    simp only [front]
    split
    · rename_i e; rw [e] at this; exact this
    · rename_i B L' e; rw [e] at this; exact this.swap
/-- the front one to place i -/
def back : Nat → List HP → List HP
  | 0, L => L
  | i + 1, A :: B :: L => B :: back i (A :: L)
  | _ + 1, L => L
theorem SatH.push : ∀ (i : Nat) {L : List HP} {h : PH}, SatH L h → SatH (back i L) h
  | 0, _, _, hs => hs
  | _ + 1, [], _, hs => hs
  | _ + 1, [_], _, hs => hs
  | i + 1, A :: B :: L, h, hs => SatH.cons_mono (fun h => SatH.push i (L := A :: L) (h := h)) hs.swap
theorem SatH.flat : ∀ {Ls L : List HP} {h : PH}, SatH (SatH Ls :: L) h → SatH (Ls ++ L) h
  | [], L, h, hs => hs.tail
  | A :: Ls, L, h, ⟨p, q, hd, ⟨p1, q1, hd1, hA, hLs⟩, hL⟩ => by
    rw [on_on] at hA hLs
    refine ⟨fun k => p k && p1 k, fun k => (p k && q1 k) || q k, fun k => ?_, hA, ?_⟩
    · have h1 := hd k; have h2 := hd1 k
      dsimp only at h1 h2 ⊢; revert h1 h2; cases p k <;> cases q k <;> cases p1 k <;> cases q1 k <;> simp
    · refine SatH.flat ⟨fun k => p k && q1 k, q, fun k => ?_, ?_, ?_⟩
      · have h1 := hd k
        dsimp only at h1 ⊢; revert h1; cases p k <;> cases q k <;> simp
      · rw [on_on, show (fun k => ((p k && q1 k) || q k) && (p k && q1 k)) = fun k => p k && q1 k from by funext k; cases p k <;> cases q k <;> cases q1 k <;> rfl]; exact hLs
      · rw [on_on, show (fun k => ((p k && q1 k) || q k) && q k) = q from by funext k; cases p k <;> cases q k <;> cases q1 k <;> rfl]; exact hL
theorem SatH.unflat : ∀ {Ls L : List HP} {h : PH}, SatH (Ls ++ L) h → SatH (SatH Ls :: L) h
  | [], L, h, hs => ⟨fun _ => false, fun _ => true, fun _ => rfl, trivial, hs⟩
  | A :: Ls, L, h, ⟨p, q, hd, hA, hr⟩ => by
    obtain ⟨p1, q1, hd1, hLs, hL⟩ := SatH.unflat hr
    rw [on_on] at hLs hL
    refine ⟨fun k => p k || (q k && p1 k), fun k => q k && q1 k, fun k => ?_, ⟨p, fun k => q k && p1 k, fun k => ?_, ?_, ?_⟩, hL⟩
    · have h1 := hd k; have h2 := hd1 k
      dsimp only at h1 h2 ⊢; revert h1 h2; cases p k <;> cases q k <;> cases p1 k <;> cases q1 k <;> simp
    · have h1 := hd k
      dsimp only at h1 ⊢; revert h1; cases p k <;> cases q k <;> simp
    · rw [on_on, show (fun k => (p k || (q k && p1 k)) && p k) = p from by funext k; cases p k <;> cases q k <;> cases p1 k <;> rfl]; exact hA
    · rw [on_on, show (fun k => (p k || (q k && p1 k)) && (q k && p1 k)) = fun k => q k && p1 k from by funext k; cases p k <;> cases q k <;> cases p1 k <;> rfl]; exact hLs

theorem SatH.of_perm {L L' : List HP} (hp : L.Perm L') : ∀ {h : PH}, SatH L h → SatH L' h := by
  induction hp with
  | nil => exact fun hs => hs
  | cons x _ ih => exact fun hs => SatH.cons_mono (fun h hh => ih hh) hs
  | swap x y l => exact fun hs => SatH.swap hs
  | trans _ _ ih1 ih2 => exact fun hs => ih2 (ih1 hs)
theorem range_getD (L : List HP) : ∀ k, k ≤ L.length → (List.range k).map (fun i => L.getD i fun _ => True) = L.take k
  | 0, _ => rfl
  | k + 1, h => by
    rw [List.range_succ, List.map_append, range_getD L k (by omega), List.map_singleton, List.take_succ_eq_append_getElem (by omega)]
    simp [List.getD_eq_getElem?_getD, List.getElem?_eq_getElem (show k < L.length by omega)]
theorem SatH.perm (is : List Nat) {L : List HP} {h : PH} (hs : SatH L h) (h1 : is.isPerm (List.range is.length) = true) (h2 : Nat.ble is.length L.length = true) : SatH (is.map (fun i => L.getD i fun _ => True) ++ L.drop is.length) h := by
  refine SatH.of_perm ?_ hs
  have h3 : is.Perm (List.range is.length) := List.isPerm_iff.1 h1
  have h4 := (h3.map (fun i => L.getD i fun _ => True)).symm
  rw [range_getD L _ (Nat.le_of_ble_eq_true h2)] at h4
  have h5 := h4.append_right (L.drop is.length)
  rwa [List.take_append_drop] at h5

/-- the memory at hand, seen from the world w0 in which all began -/
structure Sat (w0 w : World) (L : List HP) : Prop where
  os : w.os = w0.os
  tape : w.tape = w0.tape
  output : w.output = w0.output
  size : w0.heap.size ≤ w.heap.size
  sat : SatH L (fun k => w.heap[k]?)
section
variable {w0 w : World} {A B : HP} {L Ls : List HP}
theorem Sat.map {L' : List HP} (hs : Sat w0 w L) (hm : ∀ h, SatH L h → SatH L' h) : Sat w0 w L' := ⟨hs.os, hs.tape, hs.output, hs.size, hm _ hs.sat⟩
theorem Sat.pull (i : Nat) (hs : Sat w0 w L) : Sat w0 w (front i L) := hs.map fun _ => SatH.pull i
theorem Sat.push (i : Nat) (hs : Sat w0 w L) : Sat w0 w (back i L) := hs.map fun _ => SatH.push i
/-- the first ones in another order -/
theorem Sat.perm (is : List Nat) (hs : Sat w0 w L) (h1 : is.isPerm (List.range is.length) = true := by rfl) (h2 : Nat.ble is.length L.length = true := by rfl) : Sat w0 w (is.map (fun i => L.getD i fun _ => True) ++ L.drop is.length) := hs.map fun _ h => h.perm is h1 h2
theorem Sat.tail (hs : Sat w0 w (A :: L)) : Sat w0 w L := hs.map fun _ => SatH.tail
theorem Sat.head (hm : ∀ h, A h → B h) (hs : Sat w0 w (A :: L)) : Sat w0 w (B :: L) := hs.map fun _ => SatH.head_mono hm
/-- a resource that is made of others, laid open; shut -/
theorem Sat.opn (hs : Sat w0 w (SatH Ls :: L)) : Sat w0 w (Ls ++ L) := hs.map fun _ => SatH.flat
theorem Sat.shut (hs : Sat w0 w (Ls ++ L)) : Sat w0 w (SatH Ls :: L) := hs.map fun _ => SatH.unflat
theorem Sat.ex {α : Type} {F : α → HP} (hs : Sat w0 w ((fun h => ∃ x, F x h) :: L)) : ∃ x, Sat w0 w (F x :: L) := by
  obtain ⟨a, b, c, d, p, q, hd, ⟨x, hx⟩, hL⟩ := hs
  exact ⟨x, a, b, c, d, p, q, hd, hx, hL⟩
theorem Sat.and {φ : Prop} (hs : Sat w0 w ((fun h => φ ∧ A h) :: L)) : φ ∧ Sat w0 w (A :: L) := by
  obtain ⟨a, b, c, d, p, q, hd, ⟨x, hx⟩, hL⟩ := hs
  exact ⟨x, a, b, c, d, p, q, hd, hx, hL⟩
/-- two worlds of one heap -/
theorem Sat.same {w' : World} (hs : Sat w0 w L) (h1 : w'.heap = w.heap) (h2 : w'.os = w.os) (h3 : w'.tape = w.tape) (h4 : w'.output = w.output) : Sat w0 w' L :=
  ⟨h2.trans hs.os, h3.trans hs.tape, h4.trans hs.output, by rw [h1]; exact hs.size, by rw [h1]; exact hs.sat⟩
theorem Sat.drew (hs : Sat w0 w L) : Sat w0 w.drew L := hs.same rfl rfl rfl rfl
end

/-- 'what is owned is this', of whatever world -/
abbrev SameL {w0 w : World} {L : List HP} (_ : Sat w0 w L) (w' : World) : Prop := Sat w0 w' L
/-- block b is o -/
def Blk (b : Nat) (o : Obj) : HP := fun h => h b = some o
theorem Sat.blk {w0 w : World} {b : Nat} {o : Obj} {L : List HP} (hs : Sat w0 w (Blk b o :: L)) : w.heap[b]? = some o := by
  obtain ⟨_, _, _, _, p, q, hd, hb, _⟩ := hs
  simp only [Blk, on] at hb
  cases hp : p b with
  | false => rw [hp] at hb; cases hb
  | true => rw [hp] at hb; exact hb
theorem Sat.blk_lt {w0 w : World} {b : Nat} {o : Obj} {L : List HP} (hs : Sat w0 w (Blk b o :: L)) : b < w.heap.size := (Array.getElem?_eq_some_iff.1 hs.blk).1
/-- ONE RESOURCE TURNS, in blocks of its own and in new ones; all else is as it was. -/
theorem Sat.turn {w0 w w' : World} {A B : HP} {L : List HP} (hs : Sat w0 w (A :: L)) (h2 : w'.os = w.os) (h3 : w'.tape = w.tape) (h4 : w'.output = w.output) (h5 : w.heap.size ≤ w'.heap.size)
    (h : ∀ p : Nat → Bool, A (on (fun k => w.heap[k]?) p) → ∃ p' : Nat → Bool, (∀ k, k < w.heap.size → p' k = true → p k = true) ∧ (∀ k, k < w.heap.size → p k = false → w'.heap[k]? = w.heap[k]?) ∧ B (on (fun k => w'.heap[k]?) p')) :
    Sat w0 w' (B :: L) := by
  obtain ⟨a, b, c, d, p, q, hd, hA, hL⟩ := hs
  obtain ⟨p', h6, h7, hB⟩ := h p hA
  refine ⟨h2.trans a, h3.trans b, h4.trans c, Nat.le_trans d h5, p', fun k => q k && Nat.blt k w.heap.size, fun k => ?_, hB, ?_⟩
  · rcases Nat.lt_or_ge k w.heap.size with hk | hk
    · cases hp' : p' k with
      | false => rfl
      | true =>
        have h8 := h6 k hk hp'
        have h9 := hd k
        rw [h8] at h9
        simp at h9
        simp [h9]
    · have : Nat.blt k w.heap.size = false := by
        cases hb : Nat.blt k w.heap.size with
        | false => rfl
        | true => exact absurd (Nat.le_of_ble_eq_true hb) (by omega)
      simp [this]
  · have e : on (fun k => w'.heap[k]?) (fun k => q k && Nat.blt k w.heap.size) = on (fun k => w.heap[k]?) q := by
      funext k
      simp only [on]
      rcases Nat.lt_or_ge k w.heap.size with hk | hk
      · have hb : Nat.blt k w.heap.size = true := Nat.ble_eq_true_of_le hk
        rw [hb, Bool.and_true]
        cases hq : q k with
        | false => rfl
        | true =>
          have := hd k
          rw [hq, Bool.and_true] at this
          simpa using h7 k hk this
      · have hn : w.heap[k]? = none := Array.getElem?_eq_none hk
        have hb : Nat.blt k w.heap.size = false := by
          cases hb : Nat.blt k w.heap.size with
          | false => rfl
          | true => exact absurd (Nat.le_of_ble_eq_true hb) (by omega)
        rw [hb, Bool.and_false, hn]
        cases q k <;> rfl
    rw [e]
    exact hL
/-- a block is written -/
theorem Sat.write {w0 w w' : World} {b : Nat} {o o' : Obj} {L : List HP} (hs : Sat w0 w (Blk b o :: L)) (h2 : w'.os = w.os) (h3 : w'.tape = w.tape) (h4 : w'.output = w.output) (h5 : w'.heap.size = w.heap.size)
    (h6 : ∀ k, k ≠ b → w'.heap[k]? = w.heap[k]?) (h7 : w'.heap[b]? = some o') : Sat w0 w' (Blk b o' :: L) := by
  refine hs.turn h2 h3 h4 (by omega) fun p hA => ⟨p, fun k _ hk => hk, fun k hk hp => h6 k fun e => ?_, ?_⟩
  · subst e
    simp only [Blk, on, hp, cond_false] at hA
    cases hA
  · simp only [Blk, on] at hA ⊢
    cases hp : p b with
    | false => rw [hp] at hA; cases hA
    | true => simpa using h7
/-- a new block -/
theorem Sat.new {w0 w w' : World} {o : Obj} {L : List HP} (hs : Sat w0 w L) (h2 : w'.os = w.os) (h3 : w'.tape = w.tape) (h4 : w'.output = w.output) (h5 : w.heap.size < w'.heap.size)
    (h6 : ∀ k, k < w.heap.size → w'.heap[k]? = w.heap[k]?) (h7 : w'.heap[w.heap.size]? = some o) : Sat w0 w' (Blk w.heap.size o :: L) := by
  have hs' : Sat w0 w ((fun _ => True) :: L) := ⟨hs.os, hs.tape, hs.output, hs.size, fun _ => false, fun _ => true, fun _ => rfl, trivial, by rw [on_all]; exact hs.sat⟩
  refine hs'.turn h2 h3 h4 (by omega) fun p _ => ⟨fun k => k == w.heap.size, fun k hk e => ?_, fun k hk _ => h6 k hk, ?_⟩
  · simp at e; omega
  · simp only [Blk, on, beq_self_eq_true, cond_true]; exact h7
theorem Sat.alloc {w0 w : World} {L : List HP} (hs : Sat w0 w L) (o : Obj) : Sat w0 (w.alloc o) (Blk w.heap.size o :: L) :=
  hs.new rfl rfl rfl (by simp) (fun k hk => heap_alloc_old w o hk) (heap_alloc_new w o)
theorem Sat.setCell {w0 w : World} {b i : Nat} {cs : Array Value} {t : TypeId} {L : List HP} (hs : Sat w0 w (Blk b (.cells cs t (0, 0)) :: L)) (v : Value) :
    Sat w0 (w.setCell ⟨b, i, none⟩ v) (Blk b (.cells (cs.setIfInBounds i v) t (0, 0)) :: L) :=
  hs.write rfl rfl rfl (by simp) (fun k hk => heap_setCell_other w _ k v hk) (heap_setCell_same w b i cs t v hs.blk)
theorem Sat.setObj {w0 w : World} {b : Nat} {o : Obj} {L : List HP} (hs : Sat w0 w (Blk b o :: L)) (o' : Obj) :
    Sat w0 { w with heap := w.heap.setIfInBounds b o' } (Blk b o' :: L) :=
  hs.write rfl rfl rfl (by simp) (fun k hk => by simp [Array.getElem?_setIfInBounds_ne (Ne.symm hk)]) (by simp [hs.blk_lt])
theorem Sat.cell {w0 w : World} {b i : Nat} {cs : Array Value} {t : TypeId} {z : Nat × Nat} {L : List HP} {v : Value} (hs : Sat w0 w (Blk b (.cells cs t z) :: L)) (h : cs[i]? = some v) : w.cell? ⟨b, i, none⟩ = some v := by
  rw [cell_of_row w b i cs t z hs.blk]; exact h

/-- The world in which all began: its blocks are as they were. -/
def Init (w0 : World) : HP := fun h => ∀ k, k < w0.heap.size → h k = w0.heap[k]?
theorem Sat.begin (w : World) : Sat w w [Init w] := ⟨rfl, rfl, rfl, Nat.le_refl _, fun _ => true, fun _ => false, fun _ => rfl, fun k hk => rfl, trivial⟩
theorem Sat.init {w0 w : World} {L : List HP} (hs : Sat w0 w (Init w0 :: L)) : Below w0.heap.size w0 w := by
  obtain ⟨a, b, c, d, p, q, hd, hA, _⟩ := hs
  refine ⟨a, b, c, d, fun k hk => ?_⟩
  have := hA k hk
  simp only [on] at this
  cases hp : p k with
  | false =>
    rw [hp] at this
    simp only [cond_false] at this
    rw [Array.getElem?_eq_getElem hk] at this
    cases this
  | true => rw [hp] at this; exact this
end Go.Proofs.Ytiffpkbkmpianaa.X
