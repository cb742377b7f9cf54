/-
  LAYER 24: the law FlushAll.
-/
import Derived.Test.YthhojdbklnoooaaFsh4
import Derived.Test.YthhojdbklnoooaaFref1
import Derived.Test.YthhojdbklnoooaaCmp
namespace Go.Proofs.Ythhojdbklnoooaa.X
open Go Go.RowKit
set_option linter.unusedVariables false
set_option maxRecDepth 20000
theorem once_nodup (l : List Pid) : (once l).Nodup := by
  have key : ∀ (l a : List Pid), a.Nodup → (l.foldl (fun a p => if p ∈ a then a else a ++ [p]) a).Nodup := by
    intro l
    induction l with
    | nil => intro a h; exact h
    | cons x l ih =>
      intro a h
      simp only [List.foldl_cons]
      refine ih _ ?_
      split
      · exact h
      · rename_i hx
        rw [List.nodup_append]
        refine ⟨h, by simp, fun y hy z hz => ?_⟩
        simp at hz
        subst hz
        exact fun e => hx (e ▸ hy)
  exact key l [] List.nodup_nil
theorem once_pos {l : List Pid} (h : 0 < l.length) : 0 < (once l).length := by
  have key : ∀ (l a : List Pid), 0 < a.length → 0 < (l.foldl (fun a p => if p ∈ a then a else a ++ [p]) a).length := by
    intro l
    induction l with
    | nil => intro a h; exact h
    | cons x l ih =>
      intro a h
      simp only [List.foldl_cons]
      refine ih _ ?_
      split
      · exact h
      · simp
  cases l with
  | nil => cases h
  | cons x l => exact key l _ (by simp)
theorem mget_of {t : List (Pid × Nat)} {p : Pid} {n : Nat} (hk : (t.map (·.1)).Nodup) (h : (p, n) ∈ t) : mget p t = some n := by
  induction t with
  | nil => cases h
  | cons x t ih =>
    obtain ⟨q, m⟩ := x
    simp only [List.map_cons, List.nodup_cons] at hk
    simp only [mget]
    rcases List.mem_cons.1 h with h | h
    · cases h; rw [if_pos rfl]
    · have : p ≠ q := fun e => hk.1 (e ▸ List.mem_map_of_mem (f := (·.1)) h)
      rw [if_neg this]
      exact ih hk.2 h
theorem rdy_self {t : List (Pid × Nat)} (hk : (t.map (·.1)).Nodup) : rdy t t := fun p hp => by
  rw [mget_of hk (show (p.1, p.2) ∈ t from hp)]
  exact Nat.le_refl _
theorem mget_set (p q : Pid) (n : Nat) : ∀ t : List (Pid × Nat), mget p (mset q n t) = if p = q then some n else mget p t
  | [] => by simp only [mset, mget]
  | (a, x) :: t => by
    simp only [mset]
    by_cases h : q = a
    · subst h
      rw [if_pos rfl]
      simp only [mget]
      split <;> rfl
    · rw [if_neg h]
      simp only [mget, mget_set p q n t]
      by_cases h2 : p = a
      · subst h2
        rw [if_pos rfl, if_pos rfl, if_neg (fun e => h e.symm)]
      · rw [if_neg h2, if_neg h2]
end Go.Proofs.Ythhojdbklnoooaa.X
