/-
  THE ENGINE, REGIONS THAT DRAW THEIR ORDER: one run, in an order that a checked list gives, serves every order that the tape may draw.
-/
import Derived.Test.YtiffpkbkmpianaaEng
import Derived.OrdersHeld
namespace Go.Proofs.Ytiffpkbkmpianaa.X
open Go
set_option linter.unusedVariables false

section
variable {P : Program} {ops : Array Oper} {Q : Exit → Act → World → Prop} {need : Nat → Bool}

/-- Whatever is picked from here on; behind the operations that 'need' names S holds. -/
def wpAnyN (P : Program) (ops : Array Oper) (Q : Exit → Act → World → Prop) (need : Nat → Bool) : Nat → (World → Prop) → Array Bool → Act → World → Prop
  | 0, _, listed, a, w => Region.ready .any ops listed = [] ∧ Q .normal a w
  | fuel + 1, S, listed, a, w =>
    (Region.ready .any ops listed = [] → Q .normal a w) ∧
    ∀ i ∈ Region.ready .any ops listed, wpOp P ops Q i (fun a' w' => ∃ S' : World → Prop, (need i = true → S' = S ∧ (S w → S w')) ∧ wpAnyN P ops Q need fuel S' (listed.setIfInBounds i true) a' w') a w
theorem wpAny_of_N : ∀ (fuel : Nat) (S : World → Prop) (listed : Array Bool) (a : Act) (w : World), wpAnyN P ops Q need fuel S listed a w → wpAny P .any ops Q fuel listed a w
  | 0, _, _, _, _, h => h
  | fuel + 1, _, _, _, _, h => ⟨h.1, fun i hi => wpOp_mono (fun a' w' h' => let ⟨S', _, h2⟩ := h'; wpAny_of_N fuel S' _ a' w' h2) (h.2 i hi)⟩

/-- what comes behind i: read off the edges -/
def aft (ops : Array Oper) (i j : Nat) : Bool := ((Region.before ops).getD j 0).testBit i
/-- Number i may be taken first: what stands behind it waits for it, step by step; all else that is not listed is apart from it, and leaves S. -/
def takeOk (ops : Array Oper) (listed : Array Bool) (need : Nat → Bool) (pure : Bool) (i : Nat) : Bool :=
  match ops[i]? with
  | none => false
  | some oi =>
    (List.range ops.size).all fun j =>
      match ops[j]? with
      | none => false
      | some oj =>
        if aft ops i j then !(listed.getD j true) && oj.after.any (fun e => Region.binds .any e && (e.on == i || aft ops i e.on))
        else j == i || listed.getD j true || (oi.apart ops oj && (pure || need j))

theorem wpAnyN_first {i : Nat} {oi : Oper} {v : Value} (pure : Bool) (hi : ops[i]? = some oi) (hsel : ∀ (j : Nat) (o : Oper) cs b, ops[j]? = some o → o.op ≠ .select cs b)
    (hQ : ∀ c a w, Q (.panic c) (a.put oi.dst v) w → Q (.panic c) a w) (A : Nat → Bool)
    (hdesc : ∀ j oj, ops[j]? = some oj → A j = true → ∃ e ∈ oj.after, Region.binds .any e = true ∧ (e.on = i ∨ A e.on = true)) :
    ∀ (fuel : Nat) (S : World → Prop) (listed : Array Bool) (a : Act) (w : World),
      (∀ j, A j = true → j < ops.size → listed.getD j true = false) → (∀ j, A j = true → j < ops.size) →
      (∀ j oj, ops[j]? = some oj → j ≠ i → listed.getD j true = false → A j = false → oi.apart ops oj = true ∧ (pure || need j) = true) →
      i ∈ Region.ready .any ops listed → YieldsIf P ops (fun w => pure = false → S w) oi v a → (pure = false → S w) →
      wpAnyN P ops Q need fuel S (listed.setIfInBounds i true) (a.put oi.dst v) w → wpAnyN P ops Q need (fuel + 1) S listed a w := by
  intro fuel
  induction fuel with
  | zero =>
    intro S listed a w _ _ _ hr hy hS H
    refine ⟨fun h => (by rw [h] at hr; cases hr), fun j hj => ?_⟩
    by_cases hji : j = i
    · subst hji; exact hy.wpOp hi hS ⟨S, fun _ => ⟨rfl, fun h => h⟩, H⟩
    · have := ready_mono hj hji
      rw [H.1] at this
      cases this
  | succ fuel ih =>
    intro S listed a w hund hA hfree hr hy hS H
    refine ⟨fun h => (by rw [h] at hr; cases hr), fun j hj => ?_⟩
    by_cases hji : j = i
    · subst hji; exact hy.wpOp hi hS ⟨S, fun _ => ⟨rfl, fun h => h⟩, H⟩
    · have h1 := H.2 j (ready_mono hj hji)
      obtain ⟨hjun, oj, hoj, hall⟩ := mem_ready.1 hj
      have hi0 := (mem_ready.1 hr).1
      -- j doesn't stand behind i: else what it waits for is listed, and isn't
      have hAj : A j = false := by
        cases hA' : A j with
        | false => rfl
        | true =>
          obtain ⟨e, he, hb, hor⟩ := hdesc j oj hoj hA'
          have h2 := hall e he hb
          rcases hor with heq | hAe
          · rw [heq] at h2
            rcases Nat.lt_or_ge i listed.size with h' | h'
            · simp [h'] at hi0 h2; rw [hi0] at h2; cases h2
            · simp [Array.getElem?_eq_none h'] at h2
          · have h3 := hund e.on hAe (hA e.on hAe)
            rcases Nat.lt_or_ge e.on listed.size with h' | h'
            · simp [h'] at h3 h2; rw [h3] at h2; cases h2
            · simp [Array.getElem?_eq_none h'] at h2
      obtain ⟨hap, hnd⟩ := hfree j oj hoj hji hjun hAj
      have h2 := wpOp_putIf hoj hap (fun cs b => hsel i oi cs b hi) (fun cs b => hsel j oj cs b hoj) hQ hy h1
      have hund' : ∀ k, A k = true → k < ops.size → (listed.setIfInBounds j true).getD k true = false := fun k hk hks => by
        have hkj : j ≠ k := fun e => by subst e; rw [hAj] at hk; cases hk
        rw [getD_set_ne true hkj]
        exact hund k hk hks
      have hfree' : ∀ k ok, ops[k]? = some ok → k ≠ i → (listed.setIfInBounds j true).getD k true = false → A k = false → oi.apart ops ok = true ∧ (pure || need k) = true := fun k ok hk hki hun hno => by
        refine hfree k ok hk hki ?_ hno
        by_cases hjk : j = k
        · subst hjk; exact hjun
        · rw [getD_set_ne true hjk] at hun; exact hun
      refine wpOp_mono (fun a' w' h3 => ?_) h2
      obtain ⟨hy3, S', hS3, H3⟩ := h3
      refine ⟨S', hS3, ih S' (listed.setIfInBounds j true) a' w' hund' hA hfree' (ready_mono hr (Ne.symm hji)) ?_ (fun hp => ?_) ?_⟩
      · cases pure with
        | false =>
          have hnj : need j = true := by simpa using hnd
          rw [(hS3 hnj).1]
          exact hy3
        | true =>
          have e1 : (fun w => true = false → S' w) = (fun w => true = false → S w) := funext fun _ => propext ⟨fun _ h => (nomatch h), fun _ h => (nomatch h)⟩
          rw [e1]
          exact hy3
      · have hnj : need j = true := by rw [hp] at hnd; simpa using hnd
        rw [(hS3 hnj).1]
        exact (hS3 hnj).2 (hS hp)
      · rw [Array.setIfInBounds_comm _ _ hji]
        exact H3

theorem takeOk_spec {listed : Array Bool} {pure : Bool} {i : Nat} {oi : Oper} (hi : ops[i]? = some oi) (h : takeOk ops listed need pure i = true) :
    (∀ j oj, ops[j]? = some oj → aft ops i j = true → ∃ e ∈ oj.after, Region.binds .any e = true ∧ (e.on = i ∨ aft ops i e.on = true)) ∧
    (∀ j, aft ops i j = true → j < ops.size → listed.getD j true = false) ∧
    (∀ j oj, ops[j]? = some oj → j ≠ i → listed.getD j true = false → aft ops i j = false → oi.apart ops oj = true ∧ (pure || need j) = true) := by
  unfold takeOk at h
  rw [hi] at h
  simp only [List.all_eq_true, List.mem_range] at h
  refine ⟨fun j oj hoj hA => ?_, fun j hA hj => ?_, fun j oj hoj hne hun hA => ?_⟩
  · have hlt : j < ops.size := (Array.getElem?_eq_some_iff.1 hoj).1
    have := h j hlt
    rw [hoj] at this
    simp only [hA, if_true, Bool.and_eq_true, Array.any_eq_true] at this
    obtain ⟨_, k, hk, hb, hor⟩ := this
    refine ⟨oj.after[k], Array.getElem_mem hk, hb, ?_⟩
    simpa using hor
  · have := h j hj
    rw [Array.getElem?_eq_getElem hj] at this
    simp only [hA, if_true, Bool.and_eq_true] at this
    simpa using this.1
  · have hlt : j < ops.size := (Array.getElem?_eq_some_iff.1 hoj).1
    have := h j hlt
    rw [hoj] at this
    simp only [hA, hun, Bool.false_eq_true, if_false, Bool.or_false] at this
    rw [Bool.or_eq_true, beq_iff_eq, Bool.and_eq_true] at this
    rcases this with h1 | h1
    · exact absurd h1 hne
    · exact h1

/-- THE CHECK of an order: each held one may be taken first where it stands (kind 1: while S holds); each other one is the only one that may come up. -/
def ordOk (ops : Array Oper) (need : Nat → Bool) : List (Nat × Nat) → Bool → Array Bool → Bool
  | [], _, listed => (Region.ready .any ops listed).isEmpty
  | (i, 0) :: rest, sOk, listed => (!need i || sOk) && (Region.ready .any ops listed == [i]) && ordOk ops need rest (need i) (listed.setIfInBounds i true)
  | (i, 1) :: rest, sOk, listed => sOk && (Region.ready .any ops listed).contains i && takeOk ops listed need false i && ordOk ops need rest sOk (listed.setIfInBounds i true)
  | (i, 2) :: rest, sOk, listed => (Region.ready .any ops listed).contains i && takeOk ops listed need true i && ordOk ops need rest sOk (listed.setIfInBounds i true)
  | (_, 3) :: rest, sOk, listed => !sOk && ordOk ops need rest true listed
  | (_, _ + 4) :: _, _, _ => false
/-- how many operations it names -/
def cntOrd : List (Nat × Nat) → Nat
  | [] => 0
  | (_, k) :: rest => if k = 3 then cntOrd rest else cntOrd rest + 1

def stepsOf (ops : Array Oper) (need : Nat → Bool) (ord : List (Nat × Nat)) : List (Oper × Nat × Bool) := ord.map fun x => (ops.getD x.1 default, x.2, need x.1)

theorem aft_lt {i j : Nat} (h : aft ops i j = true) : j < ops.size := by
  unfold aft at h
  rcases Nat.lt_or_ge j (Region.before ops).size with h' | h'
  · have : (Region.before ops).size = ops.size := by
      unfold Region.before
      have key : ∀ (l : List Oper) (acc : Array Nat), (l.foldl (fun acc o => acc.push (o.after.foldl (fun s e => if Region.binds .any e then s ||| 2 ^ e.on ||| acc.getD e.on 0 else s) 0)) acc).size = acc.size + l.length := by
        intro l
        induction l with
        | nil => intro acc; simp
        | cons o l ih => intro acc; rw [List.foldl_cons, ih]; simp; omega
      have := key ops.toList #[]
      rw [Array.foldl_toList] at this
      simpa using this
    omega
  · simp [Array.getD_eq_getD_getElem?, Array.getElem?_eq_none h'] at h

theorem wpAnyN_ord {n : Nat} {K : Env → World → Prop} (hsel : Region.noSelect ops = true) :
    ∀ (ord : List (Nat × Nat)) (S : World → Prop) (sOk : Bool) (listed : Array Bool) (a : Act) (ρ : Env) (w : World), ordOk ops need ord sOk listed = true → (sOk = true → S w) → Rep n a ρ →
      RX P n ops S K (stepsOf ops need ord) ρ w →
      ∃ S', (sOk = true → S' = S) ∧ wpAnyN P ops (fun e a w => e = .normal ∧ ∃ ρ, Rep n a ρ ∧ K ρ w) need (cntOrd ord) S' listed a w
  | [], S, sOk, listed, a, ρ, w, hc, hS, ha, h => by
    simp only [ordOk, List.isEmpty_iff] at hc
    exact ⟨S, fun _ => rfl, hc, rfl, ρ, ha, h⟩
  | (i, 1) :: rest, S, sOk, listed, a, ρ, w, hc, hS, ha, h => by
    simp only [ordOk, Bool.and_eq_true] at hc
    obtain ⟨⟨⟨h1, h2⟩, h3⟩, h4⟩ := hc
    have hmem : i ∈ Region.ready .any ops listed := by simpa using h2
    obtain ⟨_, oi, hoi, _⟩ := mem_ready.1 hmem
    obtain ⟨hd, hu, hf⟩ := takeOk_spec hoi h3
    have hget : ops.getD i default = oi := by simp [Array.getD_eq_getD_getElem?, hoi]
    rw [stepsOf, List.map_cons, RX_cons, if_neg (by simp)] at h
    simp only [hget] at h
    have hy : yielded ops a.tmps = yE ops ρ n := funext fun j => ha.yielded ops j
    refine ⟨S, fun _ => rfl, ?_⟩
    split at h
    · rename_i hw
      rw [if_neg (by decide)] at h
      obtain ⟨v, hv, hrest⟩ := h
      obtain ⟨S', e, hN⟩ := wpAnyN_ord hsel rest S sOk _ _ _ w h4 hS (ha.put oi.dst v) hrest
      rw [e h1] at hN
      exact wpAnyN_first false hoi (Region.noSelect_spec hsel) (fun c a w hh => by simp at hh) (aft ops i) hd (cntOrd rest) S listed a w hu (fun j hj => aft_lt hj) hf hmem
        (.inl ⟨by rw [hy]; exact hw, fun w hSw => by rw [ha.eval]; exact hv w fun _ => hSw rfl⟩) (fun _ => hS h1) hN
    · rename_i hw
      obtain ⟨S', e, hN⟩ := wpAnyN_ord hsel rest S sOk _ _ _ w h4 hS (ha.put oi.dst undef) h
      rw [e h1] at hN
      exact wpAnyN_first false hoi (Region.noSelect_spec hsel) (fun c a w hh => by simp at hh) (aft ops i) hd (cntOrd rest) S listed a w hu (fun j hj => aft_lt hj) hf hmem
        (.inr ⟨by rw [hy]; simpa using hw, rfl⟩) (fun _ => hS h1) hN
  | (i, 2) :: rest, S, sOk, listed, a, ρ, w, hc, hS, ha, h => by
    simp only [ordOk, Bool.and_eq_true] at hc
    obtain ⟨⟨h2, h3⟩, h4⟩ := hc
    have hmem : i ∈ Region.ready .any ops listed := by simpa using h2
    obtain ⟨_, oi, hoi, _⟩ := mem_ready.1 hmem
    obtain ⟨hd, hu, hf⟩ := takeOk_spec hoi h3
    have hget : ops.getD i default = oi := by simp [Array.getD_eq_getD_getElem?, hoi]
    rw [stepsOf, List.map_cons, RX_cons, if_neg (by simp)] at h
    simp only [hget] at h
    have hy : yielded ops a.tmps = yE ops ρ n := funext fun j => ha.yielded ops j
    split at h
    · rename_i hw
      rw [if_neg (by decide)] at h
      obtain ⟨v, hv, hrest⟩ := h
      obtain ⟨S', e, hN⟩ := wpAnyN_ord hsel rest S sOk _ _ _ w h4 hS (ha.put oi.dst v) hrest
      exact ⟨S', e, wpAnyN_first true hoi (Region.noSelect_spec hsel) (fun c a w hh => by simp at hh) (aft ops i) hd (cntOrd rest) S' listed a w hu (fun j hj => aft_lt hj) hf hmem
        (.inl ⟨by rw [hy]; exact hw, fun w _ => by rw [ha.eval]; exact hv w fun h => by cases h⟩) (fun h => by cases h) hN⟩
    · rename_i hw
      obtain ⟨S', e, hN⟩ := wpAnyN_ord hsel rest S sOk _ _ _ w h4 hS (ha.put oi.dst undef) h
      exact ⟨S', e, wpAnyN_first true hoi (Region.noSelect_spec hsel) (fun c a w hh => by simp at hh) (aft ops i) hd (cntOrd rest) S' listed a w hu (fun j hj => aft_lt hj) hf hmem
        (.inr ⟨by rw [hy]; simpa using hw, rfl⟩) (fun h => by cases h) hN⟩
  | (i, 0) :: rest, S, sOk, listed, a, ρ, w, hc, hS, ha, h => by
    simp only [ordOk, Bool.and_eq_true, beq_iff_eq] at hc
    obtain ⟨⟨h0, h1⟩, h2⟩ := hc
    refine ⟨S, fun _ => rfl, ?_⟩
    refine ⟨fun he => (by rw [h1] at he; cases he), fun j hj => ?_⟩
    rw [h1] at hj
    obtain rfl : j = i := by simpa using hj
    have hmem : j ∈ Region.ready .any ops listed := by rw [h1]; simp
    obtain ⟨_, oi, hoi, _⟩ := mem_ready.1 hmem
    have hget : ops.getD j default = oi := by simp [Array.getD_eq_getD_getElem?, hoi]
    rw [stepsOf, List.map_cons, RX_cons, if_neg (by simp)] at h
    simp only [hget] at h
    have hy : yielded ops a.tmps = yE ops ρ n := funext fun j => ha.yielded ops j
    unfold wpOp
    rw [hoi]
    simp only
    rw [hy]
    split at h
    · rename_i hw
      rw [if_pos hw]
      rw [if_pos trivial] at h
      refine .inl (wpE_sound ha (fun a' ρ' w' ha' hk => ?_) h)
      obtain ⟨S', e, hN⟩ := wpAnyN_ord hsel rest S (need j) _ a' ρ' w' h2 hk.1 ha' hk.2
      exact ⟨S', fun hn => ⟨e hn, fun _ => hk.1 hn⟩, hN⟩
    · rename_i hw
      rw [if_neg hw]
      by_cases hnd : need j = true
      · have hs : sOk = true := by simpa [hnd] using h0
        obtain ⟨S', e, hN⟩ := wpAnyN_ord hsel rest S (need j) _ _ _ w h2 (fun _ => hS hs) (ha.put oi.dst undef) h
        exact ⟨S', fun hn => ⟨e hn, fun _ => hS hs⟩, hN⟩
      · obtain ⟨S', e, hN⟩ := wpAnyN_ord hsel rest S (need j) _ _ _ w h2 (fun e => absurd e hnd) (ha.put oi.dst undef) h
        exact ⟨S', fun e => absurd e hnd, hN⟩
  | (i, 3) :: rest, S, sOk, listed, a, ρ, w, hc, hS, ha, h => by
    simp only [ordOk, Bool.and_eq_true, Bool.not_eq_true'] at hc
    obtain ⟨h1, h2⟩ := hc
    rw [stepsOf, List.map_cons, RX_cons, if_pos rfl] at h
    obtain ⟨S1, hS1, h⟩ := h
    obtain ⟨S', e, hN⟩ := wpAnyN_ord hsel rest S1 true listed a ρ w h2 (fun _ => hS1) ha h
    exact ⟨S', fun hs => (by rw [h1] at hs; cases hs), hN⟩
  | (_, _ + 4) :: _, _, _, _, _, _, _, hc, _, _, _ => by cases hc
end

theorem c_draw {P : Program} {n : Nat} {Q : Exit → Env → World → Prop} {ρ : Env} {w : World} {id : Nat} {ops : Array Oper} (S : World → Prop) (need : Nat → Bool) (ord : List (Nat × Nat))
    (hm : P.follows .mixedOrders = true) (hsel : Region.noSelect ops = true) (hlen : cntOrd ord = ops.size) (hok : ordOk ops need ord true (Array.replicate ops.size false) = true)
    (hS : S w.drew) (h : RX P n ops S (fun ρ w => Q .normal ρ w) (stepsOf ops need ord) ρ w.drew) : CW P n (.region id ops true) Q ρ w := by
  intro a ha
  obtain ⟨S', _, hN⟩ := wpAnyN_ord hsel ord S true (Array.replicate ops.size false) a ρ w.drew hok (fun _ => hS) ha h
  have hh := wpAny_of_N _ _ _ _ _ hN
  rw [hlen] at hh
  refine Go.wp_mono (wp_region_any hm hh) ?_
  intro e a' w' ⟨he, ρ', h1, h2⟩
  subst he
  exact ⟨ρ', h1, h2⟩
end Go.Proofs.Ytiffpkbkmpianaa.X
