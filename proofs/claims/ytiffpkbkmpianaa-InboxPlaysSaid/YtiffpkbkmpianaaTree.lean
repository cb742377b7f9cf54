/-
  THE ENGINE, REGIONS THAT FORK AGAIN AND AGAIN: a tree of orders.
-/
import Derived.Test.YtiffpkbkmpianaaFork
namespace Go.Proofs.Ytiffpkbkmpianaa.X
open Go
set_option linter.unusedVariables false
/-- a tree of orders: a list; held ones and a fork; none more; one that may come up, what comes behind it, the others that may come up -/
inductive FT where
  | leaf (ord : List (Nat × Nat))
  | fork (pre : List (Nat × Nat)) (alts : FT)
  | stop
  | alt (i : Nat) (t more : FT)
section
variable {P : Program} {ops : Array Oper} {need : Nat → Bool}
def FT.ups : FT → List Nat
  | .alt i _ more => i :: more.ups
  | _ => []
def RXF (P : Program) (n : Nat) (ops : Array Oper) (need : Nat → Bool) (S : World → Prop) (Q : Env → World → Prop) : FT → Env → World → Prop
  | .leaf ord, ρ, w => RX P n ops S Q (stepsOf ops need ord) ρ w
  | .fork pre alts, ρ, w => RX P n ops S (fun ρ w => RXF P n ops need S Q alts ρ w) (stepsOf ops need pre) ρ w
  | .stop, _, _ => True
  | .alt i t more, ρ, w => RX P n ops S (fun ρ w => RXF P n ops need S Q t ρ w) (stepsOf ops need [(i, 0)]) ρ w ∧ RXF P n ops need S Q more ρ w
def okF (ops : Array Oper) (need : Nat → Bool) : FT → Bool → Bool → Array Bool → Nat → Bool
  | .leaf ord, tree, sOk, l, F => tree && ordOk ops need ord sOk l && (cntOrd ord == F)
  | .fork pre alts, tree, sOk, l, F => tree && sOk && Nat.blt pre.length F && (match preOk ops need pre l with
    | none => false
    | some l' => (Region.ready .any ops l' == alts.ups) && !alts.ups.isEmpty && okF ops need alts false true l' (F - pre.length))
  | .stop, tree, _, _, _ => !tree
  | .alt i t more, tree, sOk, l, F => !tree && sOk && Nat.blt 0 F && okF ops need t true (need i) (l.setIfInBounds i true) (F - 1) && okF ops need more false sOk l F
theorem rxf_leaf {n : Nat} {S : World → Prop} {Q : Env → World → Prop} {ρ : Env} {w : World} {ord : List (Nat × Nat)} (h : RX P n ops S Q (stepsOf ops need ord) ρ w) : RXF P n ops need S Q (.leaf ord) ρ w := h
theorem rxf_fork {n : Nat} {S : World → Prop} {Q : Env → World → Prop} {ρ : Env} {w : World} {pre : List (Nat × Nat)} {alts : FT} (h : RX P n ops S (fun ρ w => RXF P n ops need S Q alts ρ w) (stepsOf ops need pre) ρ w) : RXF P n ops need S Q (.fork pre alts) ρ w := h
theorem rxf_stop {n : Nat} {S : World → Prop} {Q : Env → World → Prop} {ρ : Env} {w : World} : RXF P n ops need S Q .stop ρ w := trivial
theorem rxf_alt {n i : Nat} {S : World → Prop} {Q : Env → World → Prop} {ρ : Env} {w : World} {t more : FT} (h1 : RX P n ops S (fun ρ w => RXF P n ops need S Q t ρ w) (stepsOf ops need [(i, 0)]) ρ w) (h2 : RXF P n ops need S Q more ρ w) : RXF P n ops need S Q (.alt i t more) ρ w := ⟨h1, h2⟩
abbrev Qn (n : Nat) (K : Env → World → Prop) : Exit → Act → World → Prop := fun e a w => e = .normal ∧ ∃ ρ, Rep n a ρ ∧ K ρ w
theorem okF_sound {n : Nat} {K : Env → World → Prop} (hsel : Region.noSelect ops = true) : ∀ (t : FT),
    (∀ (F : Nat) (S : World → Prop) (sOk : Bool) (l : Array Bool) (a : Act) (ρ : Env) (w : World), okF ops need t true sOk l F = true → (sOk = true → S w) → Rep n a ρ → RXF P n ops need S K t ρ w →
      ∃ S', (sOk = true → S' = S) ∧ wpAnyN P ops (Qn n K) need F S' l a w) ∧
    (∀ (F : Nat) (S : World → Prop) (l : Array Bool) (a : Act) (ρ : Env) (w : World), okF ops need t false true l (F + 1) = true → S w → Rep n a ρ → RXF P n ops need S K t ρ w →
      ∀ i ∈ t.ups, i ∈ Region.ready .any ops l → wpOp P ops (Qn n K) i (fun a' w' => ∃ S' : World → Prop, (need i = true → S' = S ∧ (S w → S w')) ∧ wpAnyN P ops (Qn n K) need F S' (l.setIfInBounds i true) a' w') a w)
  | .leaf ord => by
    refine ⟨fun F S sOk l a ρ w hc hS ha h => ?_, fun F S l a ρ w hc hS ha h i hi => by cases hi⟩
    simp only [okF, Bool.true_and, Bool.and_eq_true, beq_iff_eq] at hc
    obtain ⟨S', e, hN⟩ := wpAnyN_ord hsel ord S sOk l a ρ w hc.1 hS ha h
    rw [hc.2] at hN
    exact ⟨S', e, hN⟩
  | .stop => ⟨fun F S sOk l a ρ w hc => by simp [okF] at hc, fun F S l a ρ w hc hS ha h i hi => by cases hi⟩
  | .fork pre alts => by
    refine ⟨fun F S sOk l a ρ w hc hS ha h => ?_, fun F S l a ρ w hc hS ha h i hi => by cases hi⟩
    simp only [okF, Bool.true_and, Bool.and_eq_true] at hc
    obtain ⟨⟨h1, h2⟩, h3⟩ := hc
    have h2' : pre.length < F := Nat.le_of_ble_eq_true h2
    split at h3
    · cases h3
    · rename_i l' hp
      simp only [Bool.and_eq_true, beq_iff_eq, Bool.not_eq_true'] at h3
      obtain ⟨⟨h4, h5⟩, h6⟩ := h3
      refine ⟨S, fun _ => rfl, ?_⟩
      have hf : F = pre.length + ((F - pre.length - 1) + 1) := by omega
      rw [hf]
      refine wpAnyN_pre (fun c a w hh => by cases hh.1) hsel pre l a ρ w hp (hS h1) ha h fun a' ρ' ha' hk => ⟨fun he => ?_, fun i hi => ?_⟩
      · rw [h4] at he
        rw [he] at h5
        cases h5
      · have hi2 := hi
        rw [h4] at hi2
        exact (okF_sound hsel alts).2 (F - pre.length - 1) S l' a' ρ' w (by rw [show F - pre.length - 1 + 1 = F - pre.length from by omega]; exact h6) (hS h1) ha' hk i hi2 hi
  | .alt i t more => by
    refine ⟨fun F S sOk l a ρ w hc => by simp [okF] at hc, fun F S l a ρ w hc hS ha h j hj hmem => ?_⟩
    simp only [okF, Bool.not_false, Bool.true_and, Bool.and_eq_true, Nat.add_sub_cancel] at hc
    obtain ⟨⟨h1, h2⟩, h3⟩ := hc
    obtain ⟨g1, g2⟩ := h
    rcases List.mem_cons.1 hj with rfl | hj
    · obtain ⟨_, oi, hoi, _⟩ := mem_ready.1 hmem
      have hget : ops.getD j default = oi := by simp [Array.getD_eq_getD_getElem?, hoi]
      rw [stepsOf, List.map_cons, RX_cons, if_neg (by simp)] at g1
      simp only [hget] at g1
      have hy : yielded ops a.tmps = yE ops ρ n := funext fun k => ha.yielded ops k
      unfold wpOp
      rw [hoi]
      simp only
      rw [hy]
      split at g1
      · rename_i hw
        rw [if_pos hw]
        rw [if_pos trivial] at g1
        refine .inl (wpE_sound ha (fun a' ρ' w' ha' hk => ?_) g1)
        obtain ⟨S', e, hN⟩ := (okF_sound hsel t).1 F S (need j) _ a' ρ' w' h2 hk.1 ha' hk.2
        exact ⟨S', fun hn => ⟨e hn, fun _ => hk.1 hn⟩, hN⟩
      · rename_i hw
        rw [if_neg hw]
        obtain ⟨S', e, hN⟩ := (okF_sound hsel t).1 F S (need j) _ _ _ w h2 (fun _ => hS) (ha.put oi.dst undef) g1
        exact ⟨S', fun hn => ⟨e hn, fun _ => hS⟩, hN⟩
    · exact (okF_sound hsel more).2 F S l a ρ w h3 hS ha g2 j hj hmem
end
theorem c_tree {P : Program} {n : Nat} {Q : Exit → Env → World → Prop} {ρ : Env} {w : World} {id : Nat} {ops : Array Oper} (S : World → Prop) (need : Nat → Bool) (t : FT)
    (hm : P.follows .mixedOrders = true) (hsel : Region.noSelect ops = true) (hok : okF ops need t true true (Array.replicate ops.size false) ops.size = true)
    (hS : S w.drew) (h : RXF P n ops need S (fun ρ w => Q .normal ρ w) t ρ w.drew) : CW P n (.region id ops true) Q ρ w := by
  intro a ha
  obtain ⟨S', _, hN⟩ := (okF_sound hsel t).1 ops.size S true (Array.replicate ops.size false) a ρ w.drew hok (fun _ => hS) ha h
  have hh := wpAny_of_N _ _ _ _ _ hN
  refine Go.wp_mono (wp_region_any hm hh) ?_
  intro e a' w' ⟨he, ρ', h1, h2⟩
  subst he
  exact ⟨ρ', h1, h2⟩
end Go.Proofs.Ytiffpkbkmpianaa.X
