/-
  THE ENGINE, REGIONS THAT FORK: at one place more than one loud operation may come up; each of the orders behind it is shown.
-/
import Derived.Test.YtiffpkbkmpianaaDraw
namespace Go.Proofs.Ytiffpkbkmpianaa.X
open Go
set_option linter.unusedVariables false
section
variable {P : Program} {ops : Array Oper} {need : Nat → Bool}
/-- the held ones ahead of the fork: what is listed behind them -/
def preOk (ops : Array Oper) (need : Nat → Bool) : List (Nat × Nat) → Array Bool → Option (Array Bool)
  | [], l => some l
  | (i, 1) :: r, l => if (Region.ready .any ops l).contains i && takeOk ops l need false i then preOk ops need r (l.setIfInBounds i true) else none
  | (i, 2) :: r, l => if (Region.ready .any ops l).contains i && takeOk ops l need true i then preOk ops need r (l.setIfInBounds i true) else none
  | _ :: _, _ => none
theorem wpAnyN_pre {n : Nat} {Q : Exit → Act → World → Prop} {Kt : Env → World → Prop} (hQ : ∀ c a w, ¬ Q (.panic c) a w) (hsel : Region.noSelect ops = true) {F : Nat} {lend : Array Bool} {S : World → Prop} :
    ∀ (pre : List (Nat × Nat)) (listed : Array Bool) (a : Act) (ρ : Env) (w : World), preOk ops need pre listed = some lend → S w → Rep n a ρ → RX P n ops S Kt (stepsOf ops need pre) ρ w →
      (∀ a ρ, Rep n a ρ → Kt ρ w → wpAnyN P ops Q need F S lend a w) → wpAnyN P ops Q need (pre.length + F) S listed a w
  | [], listed, a, ρ, w, hc, hS, ha, h, hend => by
    simp only [preOk, Option.some.injEq] at hc
    subst hc
    rw [List.length_nil, Nat.zero_add]
    exact hend a ρ ha h
  | (i, 1) :: rest, listed, a, ρ, w, hc, hS, ha, h, hend => by
    simp only [preOk] at hc
    split at hc
    · rename_i h0
      simp only [Bool.and_eq_true] at h0
      obtain ⟨h2, h3⟩ := h0
      have hmem : i ∈ Region.ready .any ops listed := by simpa using h2
      obtain ⟨_, oi, hoi, _⟩ := mem_ready.1 hmem
      obtain ⟨hd, hu, hf⟩ := takeOk_spec hoi h3
      have hget : ops.getD i default = oi := by simp [Array.getD_eq_getD_getElem?, hoi]
      rw [stepsOf, List.map_cons, RX_cons, if_neg (by simp)] at h
      simp only [hget] at h
      have hy : yielded ops a.tmps = yE ops ρ n := funext fun j => ha.yielded ops j
      rw [List.length_cons, show rest.length + 1 + F = (rest.length + F) + 1 from by omega]
      split at h
      · rename_i hw
        rw [if_neg (by decide)] at h
        obtain ⟨v, hv, hrest⟩ := h
        have hN := wpAnyN_pre hQ hsel rest _ _ _ w hc hS (ha.put oi.dst v) hrest hend
        exact wpAnyN_first false hoi (Region.noSelect_spec hsel) (fun c a w hh => absurd hh (hQ _ _ _)) (aft ops i) hd _ S listed a w hu (fun j hj => aft_lt hj) hf hmem
          (.inl ⟨by rw [hy]; exact hw, fun w hSw => by rw [ha.eval]; exact hv w fun _ => hSw rfl⟩) (fun _ => hS) hN
      · rename_i hw
        have hN := wpAnyN_pre hQ hsel rest _ _ _ w hc hS (ha.put oi.dst undef) h hend
        exact wpAnyN_first false hoi (Region.noSelect_spec hsel) (fun c a w hh => absurd hh (hQ _ _ _)) (aft ops i) hd _ S listed a w hu (fun j hj => aft_lt hj) hf hmem
          (.inr ⟨by rw [hy]; simpa using hw, rfl⟩) (fun _ => hS) hN
    · cases hc
  | (i, 2) :: rest, listed, a, ρ, w, hc, hS, ha, h, hend => by
    simp only [preOk] at hc
    split at hc
    · rename_i h0
      simp only [Bool.and_eq_true] at h0
      obtain ⟨h2, h3⟩ := h0
      have hmem : i ∈ Region.ready .any ops listed := by simpa using h2
      obtain ⟨_, oi, hoi, _⟩ := mem_ready.1 hmem
      obtain ⟨hd, hu, hf⟩ := takeOk_spec hoi h3
      have hget : ops.getD i default = oi := by simp [Array.getD_eq_getD_getElem?, hoi]
      rw [stepsOf, List.map_cons, RX_cons, if_neg (by simp)] at h
      simp only [hget] at h
      have hy : yielded ops a.tmps = yE ops ρ n := funext fun j => ha.yielded ops j
      rw [List.length_cons, show rest.length + 1 + F = (rest.length + F) + 1 from by omega]
      split at h
      · rename_i hw
        rw [if_neg (by decide)] at h
        obtain ⟨v, hv, hrest⟩ := h
        have hN := wpAnyN_pre hQ hsel rest _ _ _ w hc hS (ha.put oi.dst v) hrest hend
        exact wpAnyN_first true hoi (Region.noSelect_spec hsel) (fun c a w hh => absurd hh (hQ _ _ _)) (aft ops i) hd _ S listed a w hu (fun j hj => aft_lt hj) hf hmem
          (.inl ⟨by rw [hy]; exact hw, fun w _ => by rw [ha.eval]; exact hv w fun h => by cases h⟩) (fun h => by cases h) hN
      · rename_i hw
        have hN := wpAnyN_pre hQ hsel rest _ _ _ w hc hS (ha.put oi.dst undef) h hend
        exact wpAnyN_first true hoi (Region.noSelect_spec hsel) (fun c a w hh => absurd hh (hQ _ _ _)) (aft ops i) hd _ S listed a w hu (fun j hj => aft_lt hj) hf hmem
          (.inr ⟨by rw [hy]; simpa using hw, rfl⟩) (fun h => by cases h) hN
    · cases hc
  | (i, 0) :: _, _, _, _, _, hc, _, _, _, _ => by simp [preOk] at hc
  | (i, _ + 3) :: _, _, _, _, _, hc, _, _, _, _ => by simp [preOk] at hc
/-- one loud operation that may come up, and its order behind it -/
theorem wpOp_fork {n i : Nat} {K : Env → World → Prop} (hsel : Region.noSelect ops = true) {S : World → Prop} {rest : List (Nat × Nat)} {listed : Array Bool} {a : Act} {ρ : Env} {w : World}
    (hmem : i ∈ Region.ready .any ops listed) (h2 : ordOk ops need rest (need i) (listed.setIfInBounds i true) = true) (hS : S w) (ha : Rep n a ρ) (h : RX P n ops S K (stepsOf ops need ((i, 0) :: rest)) ρ w) :
    wpOp P ops (fun e a w => e = .normal ∧ ∃ ρ, Rep n a ρ ∧ K ρ w) i (fun a' w' => ∃ S' : World → Prop, (need i = true → S' = S ∧ (S w → S w')) ∧ wpAnyN P ops (fun e a w => e = .normal ∧ ∃ ρ, Rep n a ρ ∧ K ρ w) need (cntOrd rest) S' (listed.setIfInBounds i true) a' w') a w := by
  obtain ⟨_, oi, hoi, _⟩ := mem_ready.1 hmem
  have hget : ops.getD i default = oi := by simp [Array.getD_eq_getD_getElem?, hoi]
  rw [stepsOf, List.map_cons, RX_cons, if_neg (by simp)] at h
  simp only [hget] at h
  have hy : yielded ops a.tmps = yE ops ρ n := funext fun j => ha.yielded ops j
  unfold wpOp
  rw [hoi]
  simp only
  rw [hy]
  split at h
  · rename_i hw
    rw [if_pos hw]
    rw [if_pos trivial] at h
    refine .inl (wpE_sound ha (fun a' ρ' w' ha' hk => ?_) h)
    obtain ⟨S', e, hN⟩ := wpAnyN_ord hsel rest S (need i) _ a' ρ' w' h2 hk.1 ha' hk.2
    exact ⟨S', fun hn => ⟨e hn, fun _ => hk.1 hn⟩, hN⟩
  · rename_i hw
    rw [if_neg hw]
    by_cases hnd : need i = true
    · obtain ⟨S', e, hN⟩ := wpAnyN_ord hsel rest S (need i) _ _ _ w h2 (fun _ => hS) (ha.put oi.dst undef) h
      exact ⟨S', fun hn => ⟨e hn, fun _ => hS⟩, hN⟩
    · obtain ⟨S', e, hN⟩ := wpAnyN_ord hsel rest S (need i) _ _ _ w h2 (fun e => absurd e hnd) (ha.put oi.dst undef) h
      exact ⟨S', fun e => absurd e hnd, hN⟩
def forkOk (ops : Array Oper) (need : Nat → Bool) (alts : List (Nat × List (Nat × Nat))) (F : Nat) : Option (Array Bool) → Bool
  | none => false
  | some l => (Region.ready .any ops l == alts.map (·.1)) && !alts.isEmpty && alts.all fun x => ordOk ops need x.2 (need x.1) (l.setIfInBounds x.1 true) && cntOrd x.2 == F
end
theorem c_fork {P : Program} {n : Nat} {Q : Exit → Env → World → Prop} {ρ : Env} {w : World} {id : Nat} {ops : Array Oper} (S : World → Prop) (need : Nat → Bool) (pre : List (Nat × Nat)) (alts : List (Nat × List (Nat × Nat))) (F : Nat)
    (hm : P.follows .mixedOrders = true) (hsel : Region.noSelect ops = true) (hlen : pre.length + (F + 1) = ops.size) (hok : forkOk ops need alts F (preOk ops need pre (Array.replicate ops.size false)) = true)
    (hS : S w.drew) (h : RX P n ops S (fun ρ w => ∀ x ∈ alts, RX P n ops S (fun ρ w => Q .normal ρ w) (stepsOf ops need ((x.1, 0) :: x.2)) ρ w) (stepsOf ops need pre) ρ w.drew) : CW P n (.region id ops true) Q ρ w := by
  intro a ha
  cases hp : preOk ops need pre (Array.replicate ops.size false) with
  | none => rw [hp] at hok; cases hok
  | some lend =>
    rw [hp] at hok
    simp only [forkOk, Bool.and_eq_true, beq_iff_eq, Bool.not_eq_true'] at hok
    obtain ⟨⟨h1, h2⟩, h3⟩ := hok
    have hN := wpAnyN_pre (Q := fun e a w => e = .normal ∧ ∃ ρ, Rep n a ρ ∧ Q .normal ρ w) (F := F + 1) (fun c a w hh => by cases hh.1) hsel pre (Array.replicate ops.size false) a ρ w.drew hp hS ha h (fun a' ρ' ha' hk => by
      refine ⟨fun he => ?_, fun i hi => ?_⟩
      · rw [h1] at he
        cases alts with
        | nil => simp at h2
        | cons x xs => simp at he
      · have hi2 := hi
        rw [h1] at hi2
        obtain ⟨x, hx, rfl⟩ := List.mem_map.1 hi2
        have h4 := List.all_eq_true.1 h3 x hx
        simp only [Bool.and_eq_true, beq_iff_eq] at h4
        have h5 := wpOp_fork hsel hi h4.1 hS ha' (hk x hx)
        rw [h4.2] at h5
        exact h5)
    have hh := wpAny_of_N _ _ _ _ _ hN
    rw [hlen] at hh
    refine Go.wp_mono (wp_region_any hm hh) ?_
    intro e a' w' ⟨he, ρ', h1, h2⟩
    subst he
    exact ⟨ρ', h1, h2⟩
end Go.Proofs.Ytiffpkbkmpianaa.X
